/-
  Contracts and plain lemmas, joined: T24, T25, T26, T27, T28
-/
import Derived.Test.YtgpmjggdloldnaaGreatDoorPartC
namespace Go.Proofs.YtgpmjggdloldnaaGreatDoor
open Go Go.Sx
set_option maxRecDepth 100000
def tidyA (l : List Atom) : List Atom := compactA (sortA l)
theorem tidyA_le (l : List Atom) : (tidyA l).length ≤ l.length := by have := compactA_le (sortA l); rw [sortA_length] at this; exact this
theorem Tidy_spec (av : Value) (l : List Atom) (h : Ghost) (ha : Atoms h av l) (hl : l.length ≤ 1000000) :
    SpecP Tryz.prog 22 [.agg #[av]] h fun u h' => ∃ v, u = .agg #[v] ∧ Atoms h' v (tidyA l) := by
  obtain ⟨oa, ca, rfl, hca⟩ := ha.shape
  refine SpecP.enter cl22 Tryz.func22 rfl Tryz.ntmps22 rfl fun E R => ?_
  refine Wc.seq ?_
  refine Wc.region ?_
  refine Wl.box rfl (by rfl) rfl (fun b1 => ?_)
  refine Wl.alloc ty24 rfl rfl (fun b2 => ?_)
  refine Wl.nil ?_
  refine Wx.then_code ?_
  refine Wc.seq ?_
  refine Wc.region ?_
  refine Wl.field fd24_0 rfl rfl ?_
  refine Wl.loadO ty22 rfl (by repeat (first | exact .here | apply Has.there)) rfl rfl ?_
  refine Wl.call (F := []) (G := _) rfl rfl rfl rfl (CloneAtom_spec _ (l.map Atom.enc) h (fitsAtoms l) (Sl.map ha) (by rw [List.length_map]; omega)) (.refl _) fun cl h1 F' hl1 ⟨e1, FC, hF', hrow⟩ => ?_
  subst e1 hF'
  have hrow : Row FC cl 37 6 l.length (l.flatMap Atom.enc) := by rw [List.length_map] at hrow; rwa [List.flatMap_def]
  refine Wl.assign rfl rfl ?_
  refine Wl.nil ?_
  refine Wx.then_code ?_
  refine Wc.seq ?_
  refine Wc.region ?_
  refine Wl.move rfl rfl ?_
  refine Wl.callA [] _ rfl rfl rfl rfl (SortA_spec cl FC l h1 hrow (by omega)) rfl fun _ h2 F' hl2 ⟨_, F2, hF', hrow2⟩ => ?_
  subst hF'
  refine Wl.nil ?_
  refine Wx.then_code ?_
  refine Wc.seq ?_
  refine Wc.region ?_
  refine Wl.move rfl rfl ?_
  refine Wl.callA [] _ rfl rfl rfl rfl (CompactAtom_spec cl F2 (sortA l) h2 (by rw [sortA_length] at hrow2 ⊢; exact hrow2) (by rw [sortA_length]; omega)) rfl fun v h3 F' hl3 ⟨F3, hF', hrow3⟩ => ?_
  subst hF'
  obtain ⟨vo, vc, rfl⟩ := Row.shape hrow3
  refine Wl.build bd24 rfl (by repeat (first | rfl | exact .nil | exact .here | apply SetL.there | apply SetLs.cons | apply FillR.cons)) rfl ?_
  refine Wl.storeA ty24 rfl rfl (by rfl) (by repeat (first | exact .here | apply Upd.there)) (by rfl) (by rfl) (by rfl) ?_
  refine Wl.nil ?_
  refine Wx.then_code ?_
  refine Wc.ret ?_
  refine Fin.slots (L := [F3, _, _]) .ret (.inl rfl) (run_cellA rfl ty24 rfl (by repeat (first | exact .here | apply Has.there)) rfl) (hl2.trans hl3) fun hL _ => ⟨rfl, _, rfl, ?_⟩
  exact Row.sl (fun _ => rfl) hrow3 rfl fun p hp => hL p (by simp [hp])
def hasT (t : ByteArray) (a : Atom) : Bool := a.x.toList == t.toList || a.y.toList == t.toList
theorem mention1_spec (a : Atom) (t : ByteArray) (b : Nat) (h : Ghost) (ht : Seg h b 0 [.string t]) :
    SpecV Tryz.prog 45 [.agg a.enc.toArray, .pointer (some ⟨b, 0, none⟩)] h (.bool (hasT t a)) := by
  refine SpecP.enter cl45 Tryz.func45 rfl Tryz.ntmps45 rfl fun E R => ?_
  refine Wc.seq ?_
  refine Wc.region ?_
  refine Wl.box rfl (by rfl) rfl (fun b1 => ?_)
  refine Wl.assign rfl rfl ?_
  refine Wl.nil ?_
  refine Wx.then_code ?_
  refine Wc.seq ?_
  refine Wc.region ?_
  refine Wl.field fd37_2 rfl rfl ?_
  refine Wl.loadO ty9 rfl (by repeat (first | exact .here | apply Has.there)) rfl rfl ?_
  refine Wl.loadG1 ty9 rfl ht rfl ?_
  refine Wl.sEql rfl rfl rfl ?_
  refine Wl.move rfl rfl ?_
  apply Wl.orB (l1 := [_, _, _, _, _]) (i := 8) (d := 13)
  · rfl
  · intro hg1
    refine Wl.guardNo rfl rfl rfl rfl ?_
    refine Wl.guardNo rfl rfl rfl rfl ?_
    refine Wl.guardNo rfl rfl rfl rfl ?_
    refine Wl.guardNo rfl rfl rfl rfl ?_
    refine Wl.pickT rfl rfl rfl ?_
    refine Wl.nil ?_
    exact Wx.reach (.cons rfl (.skip rfl (.skip rfl (.skip rfl (.skip rfl (.skip rfl (.same rfl (by rw [hg1]) (.refl _))))))))
  · intro hg1
    refine Wl.guardYes rfl rfl ?_
    refine Wl.field fd37_3 rfl rfl ?_
    refine Wl.guardYes rfl rfl ?_
    refine Wl.loadO ty9 rfl (by repeat (first | exact .here | apply Has.there)) rfl rfl ?_
    refine Wl.guardYes rfl rfl ?_
    refine Wl.loadG1 ty9 rfl ht rfl ?_
    refine Wl.guardYes rfl rfl ?_
    refine Wl.sEql rfl rfl rfl ?_
    refine Wl.pickF rfl rfl rfl ?_
    refine Wl.nil ?_
    exact Wx.reach (.cons rfl (.skip rfl (.skip rfl (.skip rfl (.skip rfl (.skip rfl (.same rfl (by rw [hg1]) (.refl _))))))))
  refine Wl.assign rfl rfl ?_
  refine Wl.nil ?_
  refine Wx.then_code ?_
  refine Wc.ret ?_
  exact endV .ret (.inl rfl) rfl rfl [_] (Ghost.le.refl _) rfl
theorem IndexFunc_spec (v : Value) (l : List Atom) (h : Ghost) (g : Nat) (caps : List Value) (p : Atom → Bool) (hv : Atoms h v l) (hl : l.length ≤ 1000000) (hp : ∀ x ∈ l, SpecV Tryz.prog g ([.agg x.enc.toArray] ++ caps) h (.bool (p x))) :
    SpecP Tryz.prog 65 [v, .func (.func g) #[] caps.toArray] h fun u _ => ∃ c : Int, u = .int .i64 c ∧ (0 ≤ c ↔ l.any p = true) := by
  obtain ⟨ao, cap, rfl, hcap⟩ := hv.shape
  refine SpecP.enter cl65 Tryz.func65 rfl Tryz.ntmps65 rfl fun E R => ?_
  refine Wc.seq ?_
  refine Wc.region ?_
  refine Wl.assign rfl rfl ?_
  refine Wl.nil ?_
  refine Wx.then_code ?_
  refine Wc.seq ?_
  refine Wc.seq ?_
  refine Wc.region ?_
  refine Wl.move rfl rfl ?_
  refine Wl.slLen Tryz.underlying22 rfl rfl ?_
  refine Wl.move rfl rfl ?_
  refine Wl.nil ?_
  refine Wx.then_code ?_
  refine Wc.block ?_
  refine Wc.loop (ι := Nat) (fun i => i ≤ l.length ∧ (l.take i).any p = false) (fun i => [(0, .slice ao l.length cap), (1, .func (.func g) #[] caps.toArray), (7, .int .i64 l.length), (8, .int .i64 i)]) (fun _ => _) (fun _ => _) (fun i => l.length - i) 0
    ⟨Nat.zero_le _, rfl⟩ (.cons rfl (.cons rfl (.cons rfl (.cons rfl (.nil _))))) rfl rfl fun i ⟨hi, hno⟩ => ?_
  refine Wc.seq ?_
  refine Wc.region ?_
  refine Wl.iLss rfl rfl rfl ?_
  refine Wl.nil ?_
  refine Wx.then_code ?_
  refine Wc.seq ?_
  refine Wc.condS rfl (fun hc1 => ?_) (fun hc1 => ?_)
  refine Wc.skip ?_
  refine Wx.then_code ?_
  refine Wc.seq ?_
  refine Wc.block ?_
  refine Wc.seq ?_
  refine Wc.region ?_
  refine Wl.move rfl rfl ?_
  refine Wl.assign rfl rfl ?_
  refine Wl.nil ?_
  refine Wx.then_code ?_
  refine Wc.seq ?_
  refine Wc.region ?_
  refine Wl.move rfl rfl ?_
  refine Wl.move rfl rfl ?_
  refine Wl.move rfl rfl ?_
  have hlt : i < l.length := by have := of_decide_eq_true hc1; omega
  have hx := List.getElem?_eq_getElem hlt
  refine Wl.elemF sl22 rfl hv rfl rfl hx rfl fun b o hseg => ?_
  refine Wl.loadGA ty37 rfl hseg rfl rfl ?_
  refine Wl.callV rfl rfl rfl (hp _ (List.getElem_mem hlt)) ?_
  refine Wl.nil ?_
  refine Wx.then_code ?_
  refine Wc.condS rfl (fun hc2 => ?_) (fun hc2 => ?_)
  refine Wc.seq ?_
  refine Wc.region ?_
  refine Wl.move rfl rfl ?_
  refine Wl.assign rfl rfl ?_
  refine Wl.nil ?_
  refine Wx.then_code ?_
  refine Wc.ret ?_
  refine Wx.block_ret ?_
  refine Wx.then_ret ?_
  refine Wx.then_ret ?_
  refine Wx.block_ret ?_
  refine Wx.then_ret ?_
  · refine Fin.slots (L := []) .ret (.inl rfl) (run_tmp rfl rfl) (Ghost.le.refl _) fun _ _ => ⟨rfl, _, rfl, ?_⟩
    exact ⟨fun _ => List.any_eq_true.2 ⟨_, List.getElem_mem hlt, hc2⟩, fun _ => by omega⟩
  refine Wc.skip ?_
  refine Wx.block_normal ?_
  refine Wx.then_code ?_
  refine Wc.region ?_
  refine Wl.inc rfl rfl (by first | assumption | omega | (have hx := of_decide_eq_true hc2; omega) | (have hx := of_decide_eq_true hc1; omega)) ?_
  refine Wl.move rfl rfl ?_
  refine Wl.nil ?_
  · refine Wx.again (i + 1) ⟨hlt, ?_⟩ (by omega) (.cons rfl (.cons rfl (.cons rfl (.cons rfl (.nil _))))) rfl .refl
    rw [List.take_add_one, hx, List.any_append, hno]; simp [show p l[i] = false from hc2]
  refine Wc.exit ?_
  refine Wx.then_exit ?_
  refine Wx.then_exit ?_
  refine Wx.block_exit ?_
  refine Wx.then_code ?_
  refine Wc.seq ?_
  refine Wc.region ?_
  refine Wl.assign rfl rfl ?_
  refine Wl.nil ?_
  refine Wx.then_code ?_
  refine Wc.ret ?_
  · refine Fin.slots (L := []) .ret (.inl rfl) (run_tmp rfl rfl) (Ghost.le.refl _) fun _ _ => ⟨rfl, _, rfl, ?_⟩
    have hi' : i = l.length := by have := of_decide_eq_false hc1; omega
    rw [hi', List.take_length] at hno
    rw [hno]; exact ⟨fun h => absurd h (by decide), fun h => by cases h⟩
theorem ContainsFunc_spec (v : Value) (l : List Atom) (h : Ghost) (g : Nat) (caps : List Value) (p : Atom → Bool) (hv : Atoms h v l) (hl : l.length ≤ 1000000) (hp : ∀ x ∈ l, SpecV Tryz.prog g ([.agg x.enc.toArray] ++ caps) h (.bool (p x))) :
    SpecV Tryz.prog 44 [v, .func (.func g) #[] caps.toArray] h (.bool (l.any p)) := by
  refine SpecP.enter cl44 Tryz.func44 rfl Tryz.ntmps44 rfl fun E R => ?_
  refine Wc.seq ?_
  refine Wc.region ?_
  refine Wl.assign rfl rfl ?_
  refine Wl.nil ?_
  refine Wx.then_code ?_
  refine Wc.seq ?_
  refine Wc.region ?_
  refine Wl.move rfl rfl ?_
  refine Wl.move rfl rfl ?_
  refine Wl.callP rfl rfl rfl (IndexFunc_spec v l h g caps p hv hl hp) fun u h' hl' ⟨c, hu, hc⟩ => ?_
  subst hu
  refine Wl.iGeq rfl rfl rfl ?_
  refine Wl.assign rfl rfl ?_
  refine Wl.nil ?_
  refine Wx.then_code ?_
  refine Wc.ret ?_
  refine endV .ret (.inl rfl) rfl rfl [] hl' ?_
  rw [Value.bool.injEq, Bool.eq_iff_iff, decide_eq_true_iff]; exact hc
def mentionB (l : List Atom) (ts : List ByteArray) : Bool := ts.all fun t => l.any (hasT t)
theorem mention_spec (v tv : Value) (l : List Atom) (ts : List ByteArray) (h : Ghost) (hv : Atoms h v l) (ht : Strs h tv ts) (hl : l.length ≤ 1000000) (hlt : ts.length ≤ 1000000) :
    SpecV Tryz.prog 25 [v, tv] h (.bool (mentionB l ts)) := by
  obtain ⟨ao, cap, rfl, hcap⟩ := ht.shape
  refine SpecP.enter cl25 Tryz.func25 rfl Tryz.ntmps25 rfl fun E R => ?_
  refine Wc.seq ?_
  refine Wc.region ?_
  refine Wl.assign rfl rfl ?_
  refine Wl.nil ?_
  refine Wx.then_code ?_
  refine Wc.seq ?_
  refine Wc.seq ?_
  refine Wc.region ?_
  refine Wl.move rfl rfl ?_
  refine Wl.slLen Tryz.underlying25 rfl rfl ?_
  refine Wl.move rfl rfl ?_
  refine Wl.nil ?_
  refine Wx.then_code ?_
  refine Wc.block ?_
  refine Wc.loop (ι := Nat) (fun i => i ≤ ts.length ∧ (ts.take i).all (fun t => l.any (hasT t)) = true) (fun i => [(0, v), (7, .slice ao ts.length cap), (8, .int .i64 ts.length), (9, .int .i64 i)]) (fun _ => _) (fun _ => _) (fun i => ts.length - i) 0
    ⟨Nat.zero_le _, rfl⟩ (.cons rfl (.cons rfl (.cons rfl (.cons rfl (.nil _))))) rfl rfl fun i ⟨hi, hall⟩ => ?_
  refine Wc.seq ?_
  refine Wc.region ?_
  refine Wl.iLss rfl rfl rfl ?_
  refine Wl.nil ?_
  refine Wx.then_code ?_
  refine Wc.seq ?_
  refine Wc.condS rfl (fun hc1 => ?_) (fun hc1 => ?_)
  refine Wc.skip ?_
  refine Wx.then_code ?_
  refine Wc.seq ?_
  refine Wc.block ?_
  refine Wc.seq ?_
  refine Wc.region ?_
  have hlt2 : i < ts.length := by have := of_decide_eq_true hc1; omega
  have hx := List.getElem?_eq_getElem hlt2
  refine Wl.elemF sl25 rfl ht rfl rfl hx rfl fun b o hseg => ?_
  refine Wl.loadG1 ty9 rfl hseg rfl ?_
  refine Wl.alloc ty9 rfl rfl (fun b1 => ?_)
  refine Wl.storeF ty9 rfl rfl rfl (by repeat (first | exact .here | apply Upd.there)) (by repeat (first | exact .here | apply SetL.there)) ?_
  refine Wl.nil ?_
  refine Wx.then_code ?_
  refine Wc.seq ?_
  refine Wc.region ?_
  refine Wl.move rfl rfl ?_
  refine Wl.makeFunc rfl rfl rfl ?_
  refine Wl.freeze fun hF => ?_
  refine Wl.callV rfl rfl rfl (ContainsFunc_spec v l _ 45 [.pointer (some ⟨b1, 0, none⟩)] (hasT ts[i]) (hv.mono (Ghost.le_ext _ _)) hl fun a _ => mention1_spec a ts[i] b1 _ (Seg.of_block (hF _ (.head _)))) ?_
  refine Wl.weak (Ghost.le_ext _ _) ?_
  refine Wl.not rfl rfl ?_
  refine Wl.nil ?_
  refine Wx.then_code ?_
  refine Wc.condS rfl (fun hc2 => ?_) (fun hc2 => ?_)
  refine Wc.seq ?_
  refine Wc.region ?_
  refine Wl.assign rfl rfl ?_
  refine Wl.nil ?_
  refine Wx.then_code ?_
  refine Wc.ret ?_
  refine Wx.block_ret ?_
  refine Wx.then_ret ?_
  refine Wx.then_ret ?_
  refine Wx.block_ret ?_
  refine Wx.then_ret ?_
  · have hb : l.any (hasT ts[i]) = false := by simpa using hc2
    exact endV .ret (.inl rfl) rfl rfl [] (Ghost.le.refl _) (by rw [mentionB, Bool.eq_false_iff.2 (not_all hx hb)])
  refine Wc.skip ?_
  refine Wx.block_normal ?_
  refine Wx.then_code ?_
  refine Wc.region ?_
  refine Wl.inc rfl rfl (by first | assumption | omega | (have hx := of_decide_eq_true hc2; omega) | (have hx := of_decide_eq_true hc1; omega)) ?_
  refine Wl.move rfl rfl ?_
  refine Wl.nil ?_
  · have hb : l.any (hasT ts[i]) = true := by simpa using hc2
    exact Wx.again (i + 1) ⟨hlt2, all_take_succ hx hall hb⟩ (by omega) (.cons rfl (.cons rfl (.cons rfl (.cons rfl (.nil _))))) rfl .refl
  refine Wc.exit ?_
  refine Wx.then_exit ?_
  refine Wx.then_exit ?_
  refine Wx.block_exit ?_
  refine Wx.then_code ?_
  refine Wc.seq ?_
  refine Wc.region ?_
  refine Wl.assign rfl rfl ?_
  refine Wl.nil ?_
  refine Wx.then_code ?_
  refine Wc.ret ?_
  · have hi' : i = ts.length := by have := of_decide_eq_false hc1; omega
    rw [hi', List.take_length] at hall
    exact endV .ret (.inl rfl) rfl rfl [] (Ghost.le.refl _) (by rw [mentionB, hall])
end Go.Proofs.YtgpmjggdloldnaaGreatDoor

namespace Go.Proofs.YtgpmjggdloldnaaGreatDoor
open Go Go.Sx
set_option maxRecDepth 100000
theorem _root_.Go.Sx.Wl.slot {P : Program} {ops : Array Oper} {Q : Exit → Act → World → Prop} {l : List Oper} {n : Nat} {K : List (Nat × Value)} {E : World} {h : Ghost} {S : List Frag} (i : Nat) (v : Value) (hv : get K i = some v) (H : Wl P ops Q l n ((i, v) :: K) E h S) : Wl P ops Q l n K E h S :=
  fun a w A => H a w (A.sub (Sub.cons hv (Sub.refl _)))
def pruneN {α : Type} (sp : List α → α → Bool) : Nat → List α → List α
  | 0, l => l
  | i + 1, l => match l[i]? with
    | none => pruneN sp i l
    | some x => if sp (l.eraseIdx i) x then pruneN sp i (l.eraseIdx i) else pruneN sp i l
def pruneL {α : Type} (sp : List α → α → Bool) (l : List α) : List α := pruneN sp l.length l
theorem prune_spec (v : Value) (l : List Atom) (h : Ghost) (g : Nat) (caps : List Value) (sp : List Atom → Atom → Bool) (hv : Atoms h v l) (hl : l.length ≤ 100000)
    (hsp : ∀ (rest : List Atom) (x : Atom) (u : Value) (h' : Ghost), h.le h' → Atoms h' u rest → rest.length ≤ 100000 → (∀ a ∈ rest, a ∈ l) → x ∈ l → SpecV Tryz.prog g ([u, .agg x.enc.toArray] ++ caps) h' (.bool (sp rest x))) :
    SpecP Tryz.prog 21 [v, .func (.func g) #[] caps.toArray] h fun u h' => Atoms h' u (pruneL sp l) := by
  refine SpecP.enter cl21 Tryz.func21 rfl Tryz.ntmps21 rfl fun E R => ?_
  refine Wc.seq ?_
  refine Wc.region ?_
  refine Wl.assign rfl rfl ?_
  refine Wl.nil ?_
  refine Wx.then_code ?_
  refine Wc.seq ?_
  refine Wc.region ?_
  refine Wl.move rfl rfl ?_
  refine Wl.call (F := []) (G := _) rfl rfl rfl rfl (CloneAtom_spec _ (l.map Atom.enc) h (fitsAtoms l) (Sl.map hv) (by rw [List.length_map]; omega)) (.refl _) fun cl h1 F' hl1 ⟨e1, FC, hF', hrow⟩ => ?_
  subst e1 hF'
  refine Wl.freeze fun hFC => ?_
  have hrow : Row FC cl 37 6 l.length (l.flatMap Atom.enc) := by rw [List.length_map] at hrow; rwa [List.flatMap_def]
  have hcl : Atoms (h1.ext FC) cl l := Row.sl (fun _ => rfl) hrow rfl hFC
  have hg1 : h1.le (h1.ext FC) := Ghost.le_ext _ _
  generalize h1.ext FC = g1 at hcl hg1
  obtain ⟨co, cc, rfl, hcc⟩ := hcl.shape
  refine Wl.assign rfl rfl ?_
  refine Wl.nil ?_
  refine Wx.then_code ?_
  refine Wc.seq ?_
  refine Wc.seq ?_
  refine Wc.region ?_
  refine Wl.move rfl rfl ?_
  refine Wl.slLen Tryz.underlying22 rfl rfl ?_
  refine Wl.iSub (c := (l.length : Int) - 1) rfl rfl rfl (IntWalk.i64_in _ (by omega)) ?_
  refine Wl.assign rfl rfl ?_
  refine Wl.nil ?_
  refine Wx.then_code ?_
  refine Wc.block ?_
  refine Wc.loop (ι := Nat × (Value × List Atom) × Ghost) (fun x => x.1 ≤ x.2.1.2.length ∧ x.2.1.2.length ≤ 100000 ∧ pruneN sp x.1 x.2.1.2 = pruneL sp l ∧ g1.le x.2.2 ∧ Atoms x.2.2 x.2.1.1 x.2.1.2 ∧ ∀ a ∈ x.2.1.2, a ∈ l)
    (fun x => [(0, x.2.1.1), (1, .func (.func g) #[] caps.toArray), (5, .int .i64 ((x.1 : Int) - 1))]) (fun x => x.2.2) (fun _ => _) (fun x => x.1) (l.length, (_, l), g1)
    ⟨Nat.le_refl _, hl, rfl, Ghost.le.refl _, hcl, fun _ h => h⟩ (.cons rfl (.cons rfl (.cons rfl (.nil _)))) rfl rfl fun ⟨k, ⟨cv, m⟩, g2⟩ ⟨hk, hm, hpr, hg2, hcm, hml⟩ => ?_
  dsimp only at hk hm hpr hg2 hcm hml
  refine Wc.seq ?_
  refine Wc.seq ?_
  refine Wc.region ?_
  refine Wl.move rfl rfl ?_
  refine Wl.iGeq rfl rfl rfl ?_
  refine Wl.nil ?_
  refine Wx.then_code ?_
  refine Wc.condS rfl (fun hc1 => ?_) (fun hc1 => ?_)
  refine Wc.skip ?_
  refine Wx.then_code ?_
  refine Wc.seq ?_
  refine Wc.block ?_
  refine Wc.seq ?_
  refine Wc.region ?_
  refine Wl.move rfl rfl ?_
  obtain ⟨j, rfl⟩ : ∃ j, k = j + 1 := ⟨k - 1, by have := of_decide_eq_true hc1; dsimp only at this; omega⟩
  have hj : j < m.length := by omega
  have hx := List.getElem?_eq_getElem hj
  refine Wl.slot 5 (.int .i64 (j : Int)) (show some (Value.int .i64 (((j + 1 : Nat) : Int) - 1)) = some (.int .i64 (j : Int)) by congr 2; omega) ?_
  obtain ⟨mo, mc, rfl, hmc⟩ := hcm.shape
  refine Wl.call (F := []) (G := _) rfl rfl rfl rfl (CloneAtom_spec _ (m.map Atom.enc) g2 (fitsAtoms m) (Sl.map hcm) (by rw [List.length_map]; omega)) (.refl _) fun cl g3 F' hg3 ⟨e1, FC, hF', hrow⟩ => ?_
  subst e1 hF'
  refine Wl.move rfl rfl ?_
  refine Wl.move rfl rfl ?_
  refine Wl.inc rfl rfl (by first | assumption | omega | (have hx := of_decide_eq_true hc1; omega)) ?_
  refine Wl.callA [] _ rfl rfl rfl rfl (DeleteAtom_spec cl FC (m.map Atom.enc) g3 j (fitsAtoms m) hrow (by rw [List.length_map]; exact hj) (by rw [List.length_map]; omega)) rfl fun rv g4 F' hg4 ⟨FD, hF', hrow2⟩ => ?_
  subst hF'
  refine Wl.freeze fun hFD => ?_
  have hrest : Atoms (g4.ext FD) rv (m.eraseIdx j) := by
    refine Sl.unmap ?_
    rw [map_eraseIdx]
    refine Row.raw ((fitsAtoms m).erase j).1 hrow2 ?_ hFD
    rw [List.length_eraseIdx_of_lt (by rw [List.length_map]; exact hj), List.length_map]
  have hg5 : g3.le (g4.ext FD) := hg4.trans (Ghost.le_ext _ _)
  generalize g4.ext FD = g5 at hrest hg5
  have hcm5 := Atoms.mono hcm hg5
  have hrl : (m.eraseIdx j).length = m.length - 1 := List.length_eraseIdx_of_lt hj
  have hrm : ∀ a ∈ m.eraseIdx j, a ∈ l := fun a ha => hml a (List.mem_of_mem_eraseIdx ha)
  have hpr2 : pruneN sp (j + 1) m = if sp (m.eraseIdx j) m[j] then pruneN sp j (m.eraseIdx j) else pruneN sp j m := by
    rw [pruneN, hx]
  refine Wl.assign rfl rfl ?_
  refine Wl.nil ?_
  refine Wx.then_code ?_
  refine Wc.seq ?_
  refine Wc.region ?_
  refine Wl.move rfl rfl ?_
  refine Wl.move rfl rfl ?_
  refine Wl.move rfl rfl ?_
  refine Wl.move rfl rfl ?_
  refine Wl.elemF (i := j) sl22 rfl hcm5 rfl rfl hx rfl fun b o hseg => ?_
  refine Wl.loadGA ty37 rfl hseg rfl rfl ?_
  refine Wl.callV rfl rfl rfl (hsp (m.eraseIdx j) m[j] rv g5 ((hg1.trans hg2).trans hg5) hrest (by omega) hrm (hml _ (List.getElem_mem hj))) ?_
  refine Wl.nil ?_
  refine Wx.then_code ?_
  refine Wc.condS rfl (fun hc2 => ?_) (fun hc2 => ?_)
  refine Wc.region ?_
  refine Wl.move rfl rfl ?_
  refine Wl.assign rfl rfl ?_
  refine Wl.nil ?_
  refine Wx.block_normal ?_
  refine Wx.then_code ?_
  refine Wc.region ?_
  refine Wl.move rfl rfl ?_
  · rw [show sp (m.eraseIdx j) m[j] = true from hc2, if_pos rfl, hpr] at hpr2
    refine Wl.iSub (c := (j : Int) - 1) rfl rfl rfl (IntWalk.i64_in _ (by omega)) ?_
    refine Wl.assign rfl rfl ?_
    refine Wl.nil ?_
    exact Wx.again (j, (_, m.eraseIdx j), g5) ⟨show j ≤ (m.eraseIdx j).length by omega, show (m.eraseIdx j).length ≤ 100000 by omega, hpr2.symm, hg2.trans hg5, hrest, hrm⟩ (Nat.lt_succ_self j) (.cons rfl (.cons rfl (.cons rfl (.nil _)))) rfl .refl
  refine Wc.skip ?_
  refine Wx.block_normal ?_
  refine Wx.then_code ?_
  refine Wc.region ?_
  refine Wl.move rfl rfl ?_
  · rw [show sp (m.eraseIdx j) m[j] = false from hc2, if_neg (by simp), hpr] at hpr2
    refine Wl.iSub (c := (j : Int) - 1) rfl rfl rfl (IntWalk.i64_in _ (by omega)) ?_
    refine Wl.assign rfl rfl ?_
    refine Wl.nil ?_
    exact Wx.again (j, (_, m), g5) ⟨show j ≤ m.length by omega, hm, hpr2.symm, hg2.trans hg5, hcm5, hml⟩ (Nat.lt_succ_self j) (.cons rfl (.cons rfl (.cons rfl (.nil _)))) rfl .refl
  refine Wc.exit ?_
  refine Wx.then_exit ?_
  refine Wx.then_exit ?_
  refine Wx.block_exit ?_
  refine Wx.then_code ?_
  refine Wc.seq ?_
  refine Wc.region ?_
  refine Wl.move rfl rfl ?_
  refine Wl.assign rfl rfl ?_
  refine Wl.nil ?_
  refine Wx.then_code ?_
  refine Wc.ret ?_
  have hk0 : k = 0 := by have := of_decide_eq_false hc1; dsimp only at this; omega
  subst hk0
  refine Fin.slots (L := []) .ret (.inl rfl) (run_tmp rfl rfl) (hg1.trans hg2) fun _ hle => ⟨rfl, ?_⟩
  rw [← hpr]
  exact Atoms.mono hcm hle
end Go.Proofs.YtgpmjggdloldnaaGreatDoor

namespace Go.Proofs.YtgpmjggdloldnaaGreatDoor
open Go Go.Sx
set_option maxRecDepth 100000
theorem _root_.Go.Sx.Wl.fieldV {P : Program} {ops : Array Oper} {Q : Exit → Act → World → Prop} {n : Nat} {K : List (Nat × Value)} {E : World} {h : Ghost} {S : List Frag} {rest : List Oper} {d : Nat} {ty : TypeId} {pos : String} {af : Array Edge}
    {T : TypeId} {f : Nat} {x : Operand} {l : List Value} {v : Value} {fs : Array Field} {fld : Field} (hT : P.underlying T = some (.struct fs)) (hf : fs[f]? = some fld) (hag : ∀ w, (isAgg fld.type).run P w = .ok false w) (hx : ev K x = some (.agg l.toArray)) (hv : l[fld.offset]? = some v) (hd : Nat.blt d n = true)
    (H : Wl P ops Q rest n ((d, v) :: K) E h S) : Wl P ops Q (⟨some d, .field T x f, ty, pos, af, none⟩ :: rest) n K E h S :=
  Wl.pure hd (fun a w A => by
    simp [execOp, Instr.field, A.ev hx, underlying, hT, hf, part, hag, asAgg, hv]) H
theorem _root_.Go.Sx.run_cell_tmp {P : Program} {n : Nat} {K : List (Nat × Value)} {E : World} {h : Ghost} {S : List Frag} {fn : Func} {t u : Tmp} {T : TypeId} {k b : Nat} {z x : Value} {l : List Value} {T' : TypeId} (hf : fn.results = #[.cell t T, .tmp u]) (ht : TyOK P T true k z) (hv : get K t = some (.pointer (some ⟨b, 0, none⟩))) (hx : get K u = some x) (hb : Has S b (cells l T')) (hk : l.length = k) :
    ∀ a w, As n K E h S a w → (results fn a.tmps).run P w = .ok (.tuple #[.agg l.toArray, x]) w := fun a w A => by
  obtain ⟨R, p⟩ := hb.split
  have hc : ∀ j v, l[j]? = some v → w.cell? ⟨b, 0 + j, none⟩ = some v := fun j v hj => by rw [(A.heap.perm p).ocell]; simpa using hj
  have h1 := A.slots t _ hv
  have h2 := A.slots u _ hx
  simp [results, hf, Array.getD_eq_getD_getElem?, h1, h2, asAddr, run_loadVarA ht hk hc]
theorem evs1 {K : List (Nat × Value)} {x : Operand} {u : Value} (h1 : ev K x = some u) : evs K [x] = some [u] := by simp [evs, h1]
noncomputable def spareB (ts : List ByteArray) (rest : List Atom) (a : Atom) : Bool := (decide ((0 : Int) < rest.length) && mentionB rest ts) && homB ts rest (rest ++ [a])
theorem Core1_spec (rv tv : Value) (rest : List Atom) (a : Atom) (ts : List ByteArray) (bT : Nat) (h : Ghost) (hv : Atoms h rv rest) (hb : Seg h bT 0 [tv]) (ht : Strs h tv ts) (hl : rest.length ≤ 100000) (hlt : ts.length ≤ 1000000) (hok : ∀ x ∈ rest ++ [a], x.kind = 2 ∨ x.y = emp) :
    SpecV Tryz.prog 23 [rv, .agg a.enc.toArray, .pointer (some ⟨bT, 0, none⟩)] h (.bool (spareB ts rest a)) := by
  obtain ⟨ro, rc, rfl, hrc⟩ := hv.shape
  obtain ⟨to, tc, rfl, htc⟩ := ht.shape
  refine SpecP.enter cl23 Tryz.func23 rfl Tryz.ntmps23 rfl fun E R => ?_
  refine Wc.seq ?_
  refine Wc.region ?_
  refine Wl.box rfl (by rfl) rfl (fun b1 => ?_)
  refine Wl.assign rfl rfl ?_
  refine Wl.nil ?_
  refine Wx.then_code ?_
  refine Wc.seq ?_
  apply Wc.draw (m := 4) (D := [[], [0], [], [2]]) (Ys := [.det _, .rel (fun _ v F _ => Row F v 37 6 rest.length (rest.flatMap Atom.enc)), .det _, .rel (fun _ v F _ => ∃ b, v = .slice (some ⟨b, 0, none⟩) 1 1 ∧ F = [(b, cells a.enc 37)])])
  · exact follows
  · kernel_rfl
  · rfl
  · rfl
  · rfl
  · skip
    apply Locs.mk
    · intro env K' h' S' hs hd hl hY
      refine Wl.move (hs _ _ rfl) rfl ?_
      refine Wl.nil ?_
      exact Wx.gives0 _ (Ghost.le.refl _) ⟨rfl, rfl⟩ (Sub.refl _)
    apply Locs.mk
    · intro env K' h' S' hs hd hl hY
      refine Wl.call (F := []) (G := _) rfl rfl (evs1 (detL (hd 0 (by decide)) (hY 0 (by decide)))) rfl (CloneAtom_spec _ (rest.map Atom.enc) h' (fitsAtoms rest) (Sl.map (hv.mono hl)) (by rw [List.length_map]; omega)) (.refl _) fun cl h1 F' hl1 ⟨e1, FC, hF', hrow⟩ => ?_
      subst e1 hF'
      have hrow : Row FC cl 37 6 rest.length (rest.flatMap Atom.enc) := by rw [List.length_map] at hrow; rwa [List.flatMap_def]
      refine Wl.nil ?_
      exact Wx.gives _ FC (Ghost.le.refl _) hrow (Sub.refl _)
    apply Locs.mk
    · intro env K' h' S' hs hd hl hY
      refine Wl.loadOA ty37 (hs _ _ rfl) (Has.right (by repeat (first | exact .here | apply Has.there))) rfl rfl ?_
      refine Wl.nil ?_
      exact Wx.gives0 _ (Ghost.le.refl _) ⟨rfl, rfl⟩ (Sub.refl _)
    apply Locs.mk
    · intro env K' h' S' hs hd hl hY
      refine Wl.buildSlice sl22 (evs1 (detL (hd 2 (by decide)) (hY 2 (by decide)))) rfl rfl (by repeat (first | rfl | exact .nil | apply Cellss.cons)) rfl rfl rfl (fun b2 => ?_)
      refine Wl.nil ?_
      exact Wx.gives _ _ (Ghost.le.refl _) ⟨b2, rfl, rfl⟩ (Sub.refl _)
    trivial
  · exact ⟨trivial, (fun _ _ _ _ _ _ H => H), trivial, (fun _ _ _ _ _ _ H => H), trivial⟩
  intro h' hl'
  intro v1 F1 y1
  intro v3 F3 y3
  show Wl _ _ _ [_, _] _ ((10, _) :: (9, _) :: (8, _) :: (7, _) :: _) _ _ _
  obtain ⟨b3, rfl, rfl⟩ := y3
  refine Wl.append [_] _ a.enc sl22 rfl rfl rfl y1 rfl rfl (srcO rfl .here (fun j u hj => by rw [Nat.zero_add]; exact hj)) (one_atom a) (by omega) (by omega) fun v' F2 hrow2 => ?_
  have hrow3 : Row F2 v' 37 6 (rest ++ [a]).length ((rest ++ [a]).flatMap Atom.enc) := by
    rw [List.length_append, List.flatMap_append]; simpa using hrow2
  refine Wl.drop ?_
  refine Wl.freeze fun hF2 => ?_
  have hall : Atoms (h'.ext F2) v' (rest ++ [a]) := Row.sl (fun _ => rfl) hrow3 rfl hF2
  have hg : h.le (h'.ext F2) := hl'.trans (Ghost.le_ext _ _)
  generalize h'.ext F2 = g at hall hg
  refine Wl.assign rfl rfl ?_
  refine Wl.nil ?_
  refine Wx.then_code ?_
  refine Wc.seq ?_
  refine Wc.region ?_
  refine Wl.move rfl rfl ?_
  refine Wl.slLen Tryz.underlying22 rfl rfl ?_
  refine Wl.iGtr rfl rfl rfl ?_
  refine Wl.move rfl rfl ?_
  apply Wl.andB (l1 := [_, _, _, _]) (i := 15) (d := 19)
  · rfl
  · intro hg1
    refine Wl.guardYes rfl rfl ?_
    refine Wl.move rfl rfl ?_
    refine Wl.guardYes rfl rfl ?_
    refine Wl.loadG1 ty25 rfl (hb.mono hg) rfl ?_
    refine Wl.guardYes rfl rfl ?_
    refine Wl.callV rfl rfl rfl (mention_spec _ _ rest ts g (hv.mono hg) (ht.mono hg) (by omega) hlt) ?_
    refine Wl.pickT rfl rfl rfl ?_
    refine Wl.nil ?_
    exact Wx.reach (.cons rfl (.skip rfl (.skip rfl (.skip rfl (.skip rfl (.same rfl (by rw [hg1]) (.refl _)))))))
  · intro hg1
    refine Wl.guardNo rfl rfl rfl rfl ?_
    refine Wl.guardNo rfl rfl rfl rfl ?_
    refine Wl.guardNo rfl rfl rfl rfl ?_
    refine Wl.pickF rfl rfl rfl ?_
    refine Wl.nil ?_
    exact Wx.reach (.cons rfl (.skip rfl (.skip rfl (.skip rfl (.skip rfl (.same rfl (by rw [hg1]) (.refl _)))))))
  refine Wl.move rfl rfl ?_
  apply Wl.andB (l1 := [_, _, _, _, _]) (i := 20) (d := 25)
  · rfl
  · intro hg2
    refine Wl.guardYes rfl rfl ?_
    refine Wl.move rfl rfl ?_
    refine Wl.guardYes rfl rfl ?_
    refine Wl.move rfl rfl ?_
    refine Wl.guardYes rfl rfl ?_
    refine Wl.loadG1 ty25 rfl (hb.mono hg) rfl ?_
    refine Wl.guardYes rfl rfl ?_
    refine Wl.callV rfl rfl rfl (contained_spec _ _ _ ts rest (rest ++ [a]) g (hv.mono hg) hall (ht.mono hg) (by omega) (by rw [List.length_append]; simp; omega) hlt hok) ?_
    refine Wl.pickT rfl rfl rfl ?_
    refine Wl.nil ?_
    exact Wx.reach (.cons rfl (.skip rfl (.skip rfl (.skip rfl (.skip rfl (.skip rfl (.same rfl (by rw [hg2]) (.refl _))))))))
  · intro hg2
    refine Wl.guardNo rfl rfl rfl rfl ?_
    refine Wl.guardNo rfl rfl rfl rfl ?_
    refine Wl.guardNo rfl rfl rfl rfl ?_
    refine Wl.guardNo rfl rfl rfl rfl ?_
    refine Wl.pickF rfl rfl rfl ?_
    refine Wl.nil ?_
    exact Wx.reach (.cons rfl (.skip rfl (.skip rfl (.skip rfl (.skip rfl (.skip rfl (.same rfl (by rw [hg2]) (.refl _))))))))
  refine Wl.assign rfl rfl ?_
  refine Wl.nil ?_
  refine Wx.then_code ?_
  refine Wc.ret ?_
  exact endV .ret (.inl rfl) rfl rfl [_] hg rfl
theorem compactA_mem : ∀ {l : List Atom} {a : Atom}, a ∈ compactA l ↔ a ∈ l
  | [], a => Iff.rfl
  | [x], a => Iff.rfl
  | x :: y :: r, a => by
    have ih := @compactA_mem (y :: r) a
    unfold compactA
    split
    · rename_i e; rw [ih, e]; simp
    · rw [List.mem_cons, ih]; simp
theorem tidyA_iff {l : List Atom} {a : Atom} : a ∈ tidyA l ↔ a ∈ l := by rw [tidyA, compactA_mem, sortA, List.mem_mergeSort]
theorem tidyA_mem {l : List Atom} {a : Atom} (h : a ∈ tidyA l) : a ∈ l := tidyA_iff.1 h
noncomputable def coreA (ts : List ByteArray) (l : List Atom) : List Atom := pruneL (spareB ts) (tidyA l)
theorem Core_spec (av tv : Value) (l : List Atom) (ts : List ByteArray) (h : Ghost) (ha : Atoms h av l) (ht : Strs h tv ts) (hl : l.length ≤ 100000) (hlt : ts.length ≤ 1000000) (g : Gl h) :
    SpecP Tryz.prog 10 [.agg #[av], tv] h fun u h' => ∃ v, u = .tuple #[.agg #[v], .int .i64 (checkE ts l)] ∧ Atoms h' v (if checkE ts l = 0 then coreA ts l else []) := by
  obtain ⟨oa, ca, rfl, hca⟩ := ha.shape
  obtain ⟨to, tc, rfl, htc⟩ := ht.shape
  refine SpecP.enter cl10 Tryz.func10 rfl Tryz.ntmps10 rfl fun E R => ?_
  refine Wc.seq ?_
  refine Wc.region ?_
  refine Wl.box rfl (by rfl) rfl (fun b1 => ?_)
  refine Wl.box rfl (by rfl) rfl (fun b2 => ?_)
  refine Wl.alloc ty24 rfl rfl (fun b3 => ?_)
  refine Wl.assign rfl rfl ?_
  refine Wl.nil ?_
  refine Wx.then_code ?_
  refine Wc.seq ?_
  refine Wc.seq ?_
  refine Wc.region ?_
  refine Wl.loadOA ty24 rfl (by repeat (first | exact .here | apply Has.there)) rfl rfl ?_
  refine Wl.loadO ty25 rfl (by repeat (first | exact .here | apply Has.there)) rfl rfl ?_
  refine Wl.callV rfl rfl rfl (check_spec _ _ ts l h ha ht (by omega) hlt g) ?_
  refine Wl.assign rfl rfl ?_
  refine Wl.nil ?_
  refine Wx.then_code ?_
  refine Wc.seq ?_
  refine Wc.region ?_
  refine Wl.move rfl rfl ?_
  refine Wl.iNeq rfl rfl rfl ?_
  refine Wl.nil ?_
  refine Wx.then_code ?_
  refine Wc.condS rfl (fun hc1 => ?_) (fun hc1 => ?_)
  refine Wc.seq ?_
  refine Wc.region ?_
  refine Wl.build bd24 rfl (by repeat (first | rfl | exact .nil | exact .here | apply SetL.there | apply SetLs.cons | apply FillR.cons)) rfl ?_
  refine Wl.move rfl rfl ?_
  refine Wl.storeA ty24 rfl rfl (by rfl) (by repeat (first | exact .here | apply Upd.there)) (by rfl) (by rfl) (by rfl) ?_
  refine Wl.assign rfl rfl ?_
  refine Wl.nil ?_
  refine Wx.then_code ?_
  refine Wc.ret ?_
  refine Wx.then_ret ?_
  · have h1 : checkE ts l ≠ 0 := by simpa using hc1
    refine Fin.slots (L := [_, _, _]) .ret (.inl rfl) (run_cell_tmp rfl ty24 rfl rfl .here rfl) (Ghost.le.refl _) fun _ _ => ⟨rfl, _, rfl, ?_⟩
    rw [if_neg h1]; exact Sl.nil _ _ _ _ _
  refine Wc.skip ?_
  refine Wx.then_code ?_
  refine Wc.seq ?_
  refine Wc.region ?_
  refine Wl.loadOA ty24 rfl (by repeat (first | exact .here | apply Has.there)) rfl rfl ?_
  have h1 : checkE ts l = 0 := by simpa using hc1
  have hat : ∀ a ∈ l, a.kind = 2 ∨ a.y = emp := checkE_ok h1
  refine Wl.callP rfl rfl rfl (Tidy_spec _ l h ha (by omega)) fun u h2 hl2 ⟨tv, hu, htv⟩ => ?_
  subst hu
  refine Wl.fieldV Tryz.underlying24 rfl ty22.agg rfl rfl rfl ?_
  refine Wl.makeFunc rfl rfl rfl ?_
  have htl := tidyA_le l
  have htm : ∀ a ∈ tidyA l, a ∈ l := fun a ha => tidyA_mem ha
  refine Wl.freezeBut [] _ [_, _] R rfl fun h3 hl3 hF => ?_
  have hbT : Seg h3 b2 0 [.slice to ts.length tc] := Seg.of_block (hF _ (.head _))
  refine Wl.callP rfl rfl rfl (prune_spec tv (tidyA l) h3 23 [.pointer (some ⟨b2, 0, none⟩)] (spareB ts) (Atoms.mono htv hl3) (by omega) fun rest x u h' hh hr hrl hrm hxm =>
    Core1_spec u _ rest x ts b2 h' hr (hbT.mono hh) (ht.mono ((hl2.trans hl3).trans hh)) hrl hlt fun y hy => by
      rcases List.mem_append.1 hy with hy | hy
      · exact hat y (htm y (hrm y hy))
      · have : y = x := by simpa using hy
        rw [this]; exact hat x (htm x hxm)) fun pv h4 hl4 hpv => ?_
  obtain ⟨po, pc, rfl, _⟩ := hpv.shape
  refine Wl.field fd24_0 rfl rfl ?_
  refine Wl.storeF ty22 rfl rfl rfl (by repeat (first | exact .here | apply Upd.there)) (by repeat (first | exact .here | apply SetL.there)) ?_
  refine Wl.nil ?_
  refine Wx.then_code ?_
  refine Wc.seq ?_
  refine Wc.region ?_
  refine Wl.loadOA ty24 rfl (by repeat (first | exact .here | apply Has.there)) rfl rfl ?_
  refine Wl.storeA ty24 rfl rfl (by rfl) (by repeat (first | exact .here | apply Upd.there)) (by rfl) (by rfl) (by rfl) ?_
  refine Wl.assign rfl rfl ?_
  refine Wl.nil ?_
  refine Wx.then_code ?_
  refine Wc.ret ?_
  refine Fin.slots (L := [_]) .ret (.inl rfl) (run_cell_tmp rfl ty24 rfl rfl .here rfl) ((hl2.trans hl3).trans hl4) fun _ hle => ⟨rfl, _, by rw [h1], ?_⟩
  rw [if_pos h1]; exact Atoms.mono hpv hle
end Go.Proofs.YtgpmjggdloldnaaGreatDoor

namespace Go.Proofs.YtgpmjggdloldnaaGreatDoor
open Go Go.Sx
set_option maxRecDepth 100000
theorem flatS_len (l : List ByteArray) : (l.flatMap strE).length = l.length * 1 := by
  induction l with
  | nil => rfl
  | cons a l ih => rw [List.flatMap_cons, List.length_append, ih, List.length_cons]; show 1 + _ = _; omega
theorem flatS_one (l : List ByteArray) : ∀ u ∈ l.flatMap strE, Sx.one u := fun u hu => by
  obtain ⟨s, _, h⟩ := List.mem_flatMap.1 hu
  exact one_strE s u h
theorem srcStrs {n : Nat} {K : List (Nat × Value)} {E : World} {h : Ghost} {S : List Frag} {m cap : Nat} {ao : Option Addr} {l : List ByteArray} (hs : Strs h (.slice ao m cap) l) :
    ∀ a w, As n K E h S a w → ∀ j u, (l.flatMap strE)[j]? = some u → ∃ b o, ao = some ⟨b, o, none⟩ ∧ w.cell? ⟨b, o + j, none⟩ = some u := by
  have := srcS (n := n) (K := K) (E := E) (S := S) (Sl.map (enc := strE) hs)
  rw [← List.flatMap_def] at this; exact this
theorem Strs.from {h : Ghost} {n cap : Nat} {ao : Option Addr} {l : List ByteArray} (H : Strs h (.slice ao n cap) l) {i : Nat} (hi : i ≤ l.length) : Strs h (.slice (if cap = i then ao else ao.map (·.add (i * 1))) (l.length - i) (cap - i)) (l.drop i) := by
  obtain ⟨a, c, e, hc, r⟩ := H
  cases e
  refine ⟨_, cap - i, by rw [List.length_drop], by rw [List.length_drop]; omega, ?_⟩
  rcases r with rfl | ⟨b, o, rfl, r⟩
  · exact .inl (by simp)
  · by_cases he : l.length = i
    · exact .inl (List.drop_eq_nil_of_le (by omega))
    · refine .inr ⟨b, o + i * 1, by rw [if_neg (by omega)]; simp only [Option.map_some, Addr.add_eq], fun j x hx => ?_⟩
      rw [List.getElem?_drop] at hx
      obtain ⟨vs, h1, h2, h3⟩ := r (i + j) x hx
      refine ⟨vs, h1, h2, ?_⟩
      rwa [show o + i * 1 + j * 1 = o + (i + j) * 1 by omega]
def inB (l : List ByteArray) (s : ByteArray) : Bool := l.any fun t => t.toList == s.toList
theorem any_take_succ {α : Type} {l : List α} {p : α → Bool} {i : Nat} {x : α} (hx : l[i]? = some x) (h1 : (l.take i).any p = false) (h2 : p x = false) : (l.take (i + 1)).any p = false := by
  rw [List.take_add_one, hx, List.any_append, h1]; simp [h2]
theorem In_spec (v : Value) (l : List ByteArray) (s : ByteArray) (h : Ghost) (hv : Strs h v l) (hl : l.length ≤ 1000000) : SpecV Tryz.prog 55 [v, .string s] h (.bool (inB l s)) := by
  obtain ⟨ao, cap, rfl, hcap⟩ := hv.shape
  refine SpecP.enter cl55 Tryz.func55 rfl Tryz.ntmps55 rfl fun E R => ?_
  refine Wc.seq ?_
  refine Wc.region ?_
  refine Wl.assign rfl rfl ?_
  refine Wl.nil ?_
  refine Wx.then_code ?_
  refine Wc.seq ?_
  refine Wc.seq ?_
  refine Wc.region ?_
  refine Wl.assign rfl rfl ?_
  refine Wl.nil ?_
  refine Wx.then_code ?_
  refine Wc.block ?_
  refine Wc.loop (ι := Nat) (fun i => i ≤ l.length ∧ (l.take i).any (fun t => t.toList == s.toList) = false) (fun i => [(0, .slice ao l.length cap), (1, .string s), (5, .int .i64 i)]) (fun _ => _) (fun _ => _) (fun i => l.length - i) 0
    ⟨Nat.zero_le _, rfl⟩ (.cons rfl (.cons rfl (.cons rfl (.nil _)))) rfl rfl fun i ⟨hi, hno⟩ => ?_
  refine Wc.seq ?_
  refine Wc.seq ?_
  refine Wc.region ?_
  refine Wl.move rfl rfl ?_
  refine Wl.move rfl rfl ?_
  refine Wl.slLen Tryz.underlying25 rfl rfl ?_
  refine Wl.iLss rfl rfl rfl ?_
  refine Wl.nil ?_
  refine Wx.then_code ?_
  refine Wc.condS rfl (fun hc1 => ?_) (fun hc1 => ?_)
  refine Wc.skip ?_
  refine Wx.then_code ?_
  refine Wc.seq ?_
  refine Wc.block ?_
  refine Wc.seq ?_
  refine Wc.region ?_
  refine Wl.move rfl rfl ?_
  refine Wl.move rfl rfl ?_
  have hlt : i < l.length := by have := of_decide_eq_true hc1; omega
  have hx := List.getElem?_eq_getElem hlt
  refine Wl.elemF sl25 rfl hv rfl rfl hx rfl fun b o hseg => ?_
  refine Wl.loadG1 ty9 rfl hseg rfl ?_
  refine Wl.move rfl rfl ?_
  refine Wl.sEql rfl rfl rfl ?_
  refine Wl.nil ?_
  refine Wx.then_code ?_
  refine Wc.condS rfl (fun hc2 => ?_) (fun hc2 => ?_)
  refine Wc.seq ?_
  refine Wc.region ?_
  refine Wl.assign rfl rfl ?_
  refine Wl.nil ?_
  refine Wx.then_code ?_
  refine Wc.ret ?_
  refine Wx.block_ret ?_
  refine Wx.then_ret ?_
  refine Wx.then_ret ?_
  refine Wx.block_ret ?_
  refine Wx.then_ret ?_
  · exact endV .ret (.inl rfl) rfl rfl [] (Ghost.le.refl _) (by rw [inB, List.any_eq_true.2 ⟨_, List.getElem_mem hlt, hc2⟩])
  refine Wc.skip ?_
  refine Wx.block_normal ?_
  refine Wx.then_code ?_
  refine Wc.region ?_
  refine Wl.move rfl rfl ?_
  refine Wl.inc rfl rfl (by first | assumption | omega | (have hx := of_decide_eq_true hc2; omega) | (have hx := of_decide_eq_true hc1; omega)) ?_
  refine Wl.assign rfl rfl ?_
  refine Wl.nil ?_
  · exact Wx.again (i + 1) ⟨hlt, any_take_succ hx hno hc2⟩ (by omega) (.cons rfl (.cons rfl (.cons rfl (.nil _)))) rfl .refl
  refine Wc.exit ?_
  refine Wx.then_exit ?_
  refine Wx.then_exit ?_
  refine Wx.block_exit ?_
  refine Wx.then_code ?_
  refine Wc.seq ?_
  refine Wc.region ?_
  refine Wl.assign rfl rfl ?_
  refine Wl.nil ?_
  refine Wx.then_code ?_
  refine Wc.ret ?_
  · have hi' : i = l.length := by have := of_decide_eq_false hc1; omega
    rw [hi', List.take_length] at hno
    exact endV .ret (.inl rfl) rfl rfl [] (Ghost.le.refl _) (by rw [inB, hno])
def skipB (l : List ByteArray) (s : ByteArray) : Bool := ((s.size : Int) == 0 || (((s.data.toList.headD 0).toNat : Int) != 63)) || inB l s
def placeN (l : List ByteArray) (s : ByteArray) : Nat := (l.takeWhile fun t => Op.bytesLess t.toList s.toList).length
def insertV (l : List ByteArray) (s : ByteArray) : List ByteArray := if skipB l s then l else l.take (placeN l s) ++ [s] ++ l.drop (placeN l s)
theorem insertV_le (l : List ByteArray) (s : ByteArray) : (insertV l s).length ≤ l.length + 1 := by
  unfold insertV; split
  · omega
  · simp; omega
theorem takeWhile_at {α : Type} {p : α → Bool} : ∀ {l : List α} {i : Nat}, i ≤ l.length → (l.take i).all p = true → (i < l.length → ∃ x, l[i]? = some x ∧ p x = false) → (l.takeWhile p).length = i
  | [], i, hi, _, _ => by simp at hi; simp [hi]
  | a :: l, 0, hi, _, h => by
    obtain ⟨x, hx, hp⟩ := h (by simp)
    simp at hx; subst hx
    simp [hp]
  | a :: l, i + 1, hi, hall, h => by
    rw [List.take_succ_cons, List.all_cons, Bool.and_eq_true] at hall
    rw [List.takeWhile_cons, if_pos hall.1, List.length_cons, takeWhile_at (by simpa using hi) hall.2 fun hlt => by simpa using h (by simpa using hlt)]
theorem insert_spec (v : Value) (l : List ByteArray) (s : ByteArray) (h : Ghost) (hv : Strs h v l) (hl : l.length ≤ 1000000) : SpecP Tryz.prog 32 [v, .string s] h fun u h' => Strs h' u (insertV l s) := by
  obtain ⟨ao, cap, rfl, hcap⟩ := hv.shape
  refine SpecP.enter cl32 Tryz.func32 rfl Tryz.ntmps32 rfl fun E R => ?_
  refine Wc.seq ?_
  refine Wc.region ?_
  refine Wl.assign rfl rfl ?_
  refine Wl.nil ?_
  refine Wx.then_code ?_
  refine Wc.seq ?_
  refine Wc.seq ?_
  refine Wc.region ?_
  refine Wl.move rfl rfl ?_
  refine Wl.sLen Tryz.underlying9 rfl rfl ?_
  refine Wl.iEql rfl rfl rfl ?_
  refine Wl.move rfl rfl ?_
  apply Wl.orB (l1 := [_, _, _, _]) (i := 9) (d := 13)
  · rfl
  · intro hg1
    refine Wl.guardNo rfl rfl rfl rfl ?_
    refine Wl.guardNo rfl rfl rfl rfl ?_
    refine Wl.guardNo rfl rfl rfl rfl ?_
    refine Wl.pickT rfl rfl rfl ?_
    refine Wl.nil ?_
    exact Wx.reach (.cons rfl (.skip rfl (.skip rfl (.skip rfl (.skip rfl (.same rfl (by rw [hg1]) (.refl _)))))))
  · intro hg1
    refine Wl.guardYes rfl rfl ?_
    refine Wl.move rfl rfl ?_
    refine Wl.guardYes rfl rfl ?_
    refine Wl.sIndex (i := 0) Tryz.underlying9 rfl rfl rfl (headD_get (l := s.data.toList) (fun e => by have := data_length s; rw [e] at this; simp at this; simp [← this] at hg1)) rfl ?_
    refine Wl.guardYes rfl rfl ?_
    refine Wl.iNeq rfl rfl rfl ?_
    refine Wl.pickF rfl rfl rfl ?_
    refine Wl.nil ?_
    exact Wx.reach (.cons rfl (.skip rfl (.skip rfl (.skip rfl (.skip rfl (.same rfl (by rw [hg1]) (.refl _)))))))
  refine Wl.move rfl rfl ?_
  apply Wl.orB (l1 := [_, _, _, _]) (i := 14) (d := 18)
  · rfl
  · intro hg2
    refine Wl.guardNo rfl rfl rfl rfl ?_
    refine Wl.guardNo rfl rfl rfl rfl ?_
    refine Wl.guardNo rfl rfl rfl rfl ?_
    refine Wl.pickT rfl rfl rfl ?_
    refine Wl.nil ?_
    exact Wx.reach (.cons rfl (.skip rfl (.skip rfl (.skip rfl (.skip rfl (.same rfl (by rw [hg2]) (.refl _)))))))
  · intro hg2
    refine Wl.guardYes rfl rfl ?_
    refine Wl.move rfl rfl ?_
    refine Wl.guardYes rfl rfl ?_
    refine Wl.move rfl rfl ?_
    refine Wl.guardYes rfl rfl ?_
    refine Wl.callV rfl rfl rfl (In_spec _ l s h hv hl) ?_
    refine Wl.pickF rfl rfl rfl ?_
    refine Wl.nil ?_
    exact Wx.reach (.cons rfl (.skip rfl (.skip rfl (.skip rfl (.skip rfl (.same rfl (by rw [hg2]) (.refl _)))))))
  refine Wl.nil ?_
  refine Wx.then_code ?_
  refine Wc.condS rfl (fun hc3 => ?_) (fun hc3 => ?_)
  refine Wc.seq ?_
  refine Wc.region ?_
  refine Wl.move rfl rfl ?_
  refine Wl.assign rfl rfl ?_
  refine Wl.nil ?_
  refine Wx.then_code ?_
  refine Wc.ret ?_
  refine Wx.then_ret ?_
  · have hs : skipB l s = true := hc3
    refine Fin.slots (L := []) .ret (.inl rfl) (run_tmp rfl rfl) (Ghost.le.refl _) fun _ hle => ⟨rfl, ?_⟩
    rw [insertV, if_pos hs]; exact hv.mono hle
  refine Wc.skip ?_
  refine Wx.then_code ?_
  refine Wc.seq ?_
  refine Wc.region ?_
  refine Wl.assign rfl rfl ?_
  refine Wl.nil ?_
  refine Wx.then_code ?_
  refine Wc.seq ?_
  refine Wc.block ?_
  have hs : ¬ skipB l s = true := fun e => by rw [show skipB l s = false from hc3] at e; cases e
  refine Wc.loop (ι := Nat) (fun i => i ≤ l.length ∧ (l.take i).all (fun t => Op.bytesLess t.toList s.toList) = true) (fun i => [(0, .slice ao l.length cap), (1, .string s), (5, .int .i64 i)]) (fun _ => _) (fun _ => _) (fun i => l.length - i) 0
    ⟨Nat.zero_le _, rfl⟩ (.cons rfl (.cons rfl (.cons rfl (.nil _)))) rfl rfl fun i ⟨hi, hall⟩ => ?_
  have hgx : i < l.length → l[i]? = some (l.getD i emp) := fun h => by simp [h]
  refine Wc.seq ?_
  refine Wc.seq ?_
  refine Wc.region ?_
  refine Wl.move rfl rfl ?_
  refine Wl.move rfl rfl ?_
  refine Wl.slLen Tryz.underlying25 rfl rfl ?_
  refine Wl.iLss rfl rfl rfl ?_
  refine Wl.move rfl rfl ?_
  apply Wl.andB (l1 := [_, _, _, _, _, _, _]) (i := 24) (d := 31)
  · rfl
  · intro hg4
    refine Wl.guardYes rfl rfl ?_
    refine Wl.move rfl rfl ?_
    refine Wl.guardYes rfl rfl ?_
    refine Wl.move rfl rfl ?_
    refine Wl.guardYes rfl rfl ?_
    have hlt : i < l.length := by have := of_decide_eq_true hg4; omega
    refine Wl.elemF sl25 rfl hv rfl rfl (hgx hlt) rfl fun b o hseg => ?_
    refine Wl.guardYes rfl rfl ?_
    refine Wl.loadG1 ty9 rfl hseg rfl ?_
    refine Wl.guardYes rfl rfl ?_
    refine Wl.move rfl rfl ?_
    refine Wl.guardYes rfl rfl ?_
    refine Wl.sLss rfl rfl rfl ?_
    refine Wl.pickT rfl rfl rfl ?_
    refine Wl.nil ?_
    exact Wx.reach (.cons rfl (.skip rfl (.skip rfl (.skip rfl (.skip rfl (.skip rfl (.skip rfl (.skip rfl (.same rfl (by rw [hg4]) (.refl _))))))))))
  · intro hg4
    refine Wl.guardNo rfl rfl rfl rfl ?_
    refine Wl.guardNo rfl rfl rfl rfl ?_
    refine Wl.guardNo rfl rfl rfl rfl ?_
    refine Wl.guardNo rfl rfl rfl rfl ?_
    refine Wl.guardNo rfl rfl rfl rfl ?_
    refine Wl.guardNo rfl rfl rfl rfl ?_
    refine Wl.pickF rfl rfl rfl ?_
    refine Wl.nil ?_
    exact Wx.reach (.cons rfl (.skip rfl (.skip rfl (.skip rfl (.skip rfl (.skip rfl (.skip rfl (.skip rfl (.same rfl (by rw [hg4]) (.refl _))))))))))
  refine Wl.nil ?_
  refine Wx.then_code ?_
  refine Wc.condS rfl (fun hc5 => ?_) (fun hc5 => ?_)
  refine Wc.skip ?_
  refine Wx.then_code ?_
  refine Wc.block ?_
  refine Wc.region ?_
  refine Wl.move rfl rfl ?_
  refine Wl.inc rfl rfl (by first | assumption | omega | (have hx := of_decide_eq_true hc5; omega) | (have hx := of_decide_eq_true hc3; omega)) ?_
  refine Wl.assign rfl rfl ?_
  refine Wl.nil ?_
  refine Wx.block_normal ?_
  · have h5 : (decide ((i : Int) < l.length) && Op.bytesLess (l.getD i emp).toList s.toList) = true := hc5
    simp only [Bool.and_eq_true] at h5
    have hlt : i < l.length := by have := of_decide_eq_true h5.1; omega
    exact Wx.again (i + 1) ⟨hlt, all_take_succ (hgx hlt) hall h5.2⟩ (by omega) (.cons rfl (.cons rfl (.cons rfl (.nil _)))) rfl .refl
  refine Wc.exit ?_
  refine Wx.then_exit ?_
  refine Wx.then_exit ?_
  refine Wx.block_exit ?_
  refine Wx.then_code ?_
  refine Wc.seq ?_
  have hn : placeN l s = i := takeWhile_at hi hall fun hlt => ⟨_, hgx hlt, by
    have h5 : (decide ((i : Int) < l.length) && Op.bytesLess (l.getD i emp).toList s.toList) = false := hc5
    rw [decide_eq_true (show (i : Int) < l.length by omega), Bool.true_and] at h5; exact h5⟩
  have hI : insertV l s = (l.take i ++ [s]) ++ l.drop i := by rw [insertV, if_neg hs, hn]
  apply Wc.drawU (m := 11) (D := [[], [], [], [1, 2], [0, 3], [], [5], [4, 6], [], [], [8, 9]]) (U := [[], [], [], [], [0], [], [], [4, 6], [], [], []]) (Ys := [.gone (fun _ v F _ => Row F v 9 1 0 [] ∧ ∃ b, v = .slice (some ⟨b, 0, none⟩) 0 0), .det _, .det _, .det (.slice ao i cap), .gone (fun _ v F _ => Row F v 9 1 i ((l.take i).flatMap strE)), .det _, .gone (fun _ v F _ => ∃ b, v = .slice (some ⟨b, 0, none⟩) 1 1 ∧ F = [(b, cells (strE s) 9)]), .rel (fun _ v F _ => Row F v 9 1 (i + 1) ((l.take i ++ [s]).flatMap strE)), .det _, .det _, .det (.slice (if cap = i then ao else ao.map (·.add (i * 1))) (l.length - i) (cap - i))])
  · exact follows
  · kernel_rfl
  · kernel_rfl
  · rfl
  · rfl
  · rfl
  · rfl
  · skip
    apply Locs.mk
    · intro env K' h' S' hs hd hl hY
      refine Wl.buildSlice0 sl25 rfl (fun b0 => ?_)
      refine Wl.nil ?_
      exact Wx.gives _ _ (Ghost.le.refl _) ⟨⟨rfl, .inr ⟨b0, 0, [], rfl, rfl, Nat.le_refl _, rfl⟩⟩, b0, rfl⟩ (Sub.refl _)
    apply Locs.mk
    · intro env K' h' S' hs hd hl hY
      refine Wl.move (hs _ _ rfl) rfl ?_
      refine Wl.nil ?_
      exact Wx.gives0 _ (Ghost.le.refl _) ⟨rfl, rfl⟩ (Sub.refl _)
    apply Locs.mk
    · intro env K' h' S' hs hd hl hY
      refine Wl.move (hs _ _ rfl) rfl ?_
      refine Wl.nil ?_
      exact Wx.gives0 _ (Ghost.le.refl _) ⟨rfl, rfl⟩ (Sub.refl _)
    apply Locs.mk
    · intro env K' h' S' hs hd hl hY
      refine Wl.sliceHi sl25 (detL (hd 1 (by decide)) (hY 1 (by decide))) (detL (hd 2 (by decide)) (hY 2 (by decide))) rfl (by omega) rfl ?_
      refine Wl.nil ?_
      exact Wx.gives0 _ (Ghost.le.refl _) ⟨rfl, rfl⟩ (Sub.refl _)
    apply Locs.mk
    · intro env K' h' S' φ hs hd hl hY hU
      have y0 := hU 0 (by decide); have e0 := hd 0 (by decide)
      refine Wl.append (F := φ 0) [] _ ((l.take i).flatMap strE) sl25 e0 (detL (hd 3 (by decide)) (hY 3 (by decide) (by decide))) rfl y0.1 rfl (by rw [flatS_len, List.length_take]; omega) (srcStrs (Sl.take (hv.mono hl) hi)) (flatS_one _) (by omega) (by omega) fun v' F' hrow => ?_
      refine Wl.nil ?_
      exact Wx.gives _ F' (Ghost.le.refl _) (by rw [Nat.zero_add, List.nil_append] at hrow; exact hrow) (Sub.refl _)
    apply Locs.mk
    · intro env K' h' S' hs hd hl hY
      refine Wl.move (hs _ _ rfl) rfl ?_
      refine Wl.nil ?_
      exact Wx.gives0 _ (Ghost.le.refl _) ⟨rfl, rfl⟩ (Sub.refl _)
    apply Locs.mk
    · intro env K' h' S' hs hd hl hY
      refine Wl.buildSlice sl25 (evs1 (detL (hd 5 (by decide)) (hY 5 (by decide)))) rfl rfl (by repeat (first | rfl | exact .nil | apply Cellss.cons)) rfl rfl rfl (fun b6 => ?_)
      refine Wl.nil ?_
      exact Wx.gives _ _ (Ghost.le.refl _) ⟨b6, rfl, rfl⟩ (Sub.refl _)
    apply Locs.mk
    · intro env K' h' S' φ hs hd hl hY hU
      have y4 := hU 4 (by decide); have e4 := hd 4 (by decide)
      have y6 := hU 6 (by decide); have e6 := hd 6 (by decide)
      obtain ⟨b6, hv6, hF6⟩ := y6
      rw [hv6] at e6
      show Wl _ _ _ _ _ _ _ _ (φ 4 :: φ 6 :: (S' ++ _))
      rw [hF6]
      refine Wl.append (F := φ 4) [] _ (strE s) sl25 e4 e6 rfl y4 rfl rfl (srcO rfl (.there .here) (fun j u hj => by rw [Nat.zero_add]; exact hj)) (one_strE s) (by omega) (by omega) fun v' F' hrow => ?_
      refine Wl.perm (.swap _ _ _) (Wl.drop ?_)
      refine Wl.nil ?_
      exact Wx.gives _ F' (Ghost.le.refl _) (show Row F' v' 9 1 (i + 1) ((l.take i ++ [s]).flatMap strE) by rw [List.flatMap_append]; simpa using hrow) (Sub.refl _)
    apply Locs.mk
    · intro env K' h' S' hs hd hl hY
      refine Wl.move (hs _ _ rfl) rfl ?_
      refine Wl.nil ?_
      exact Wx.gives0 _ (Ghost.le.refl _) ⟨rfl, rfl⟩ (Sub.refl _)
    apply Locs.mk
    · intro env K' h' S' hs hd hl hY
      refine Wl.move (hs _ _ rfl) rfl ?_
      refine Wl.nil ?_
      exact Wx.gives0 _ (Ghost.le.refl _) ⟨rfl, rfl⟩ (Sub.refl _)
    apply Locs.mk
    · intro env K' h' S' hs hd hl hY
      refine Wl.sliceLo sl25 (detL (hd 8 (by decide)) (hY 8 (by decide))) (detL (hd 9 (by decide)) (hY 9 (by decide))) rfl hi rfl ?_
      refine Wl.nil ?_
      exact Wx.gives0 _ (Ghost.le.refl _) ⟨rfl, rfl⟩ (Sub.refl _)
    trivial
  · exact ⟨(fun _ _ _ _ _ _ H => H), trivial, trivial, trivial, (fun _ _ _ _ _ _ H => H), trivial, (fun _ _ _ _ _ _ H => H), (fun _ _ _ _ _ _ H => H), trivial, trivial, trivial, trivial⟩
  intro h' hl'
  intro v0
  intro v4
  intro v6
  intro v7 F7 y7
  show Wl _ _ _ [_, _] _ ((44, _) :: (43, _) :: (42, _) :: (41, _) :: (40, _) :: (39, _) :: (38, _) :: (37, _) :: (36, _) :: (35, _) :: (34, _) :: _) _ _ _
  have hdr := Strs.from (hv.mono hl') hi
  refine Wl.append (F := F7) [] _ ((l.drop i).flatMap strE) sl25 rfl rfl rfl y7 rfl (by rw [flatS_len, List.length_drop]) (srcStrs hdr) (flatS_one _) (by omega) (by omega) fun v' F' hrow => ?_
  refine Wl.assign rfl rfl ?_
  refine Wl.nil ?_
  refine Wx.then_code ?_
  refine Wc.ret ?_
  refine Fin.slots (L := [F']) .ret (.inl rfl) (run_tmp rfl rfl) hl' fun hL _ => ⟨rfl, ?_⟩
  rw [hI]
  rw [← List.flatMap_append] at hrow
  exact Row.sl (enc := strE) (fun _ => rfl) hrow (by simp; omega) fun p hp => hL p (by simp [hp])
def refVarsN (l : List Atom) : List ByteArray := l.foldl (fun r a => insertV (insertV r a.x) a.y) []
theorem refVars_le (l : List Atom) : (refVarsN l).length ≤ l.length * 2 := by
  unfold refVarsN
  have : ∀ (l : List Atom) (r : List ByteArray), (l.foldl (fun r a => insertV (insertV r a.x) a.y) r).length ≤ r.length + l.length * 2 := by
    intro l
    induction l with
    | nil => intro r; simp
    | cons a l ih =>
      intro r
      have h1 := ih (insertV (insertV r a.x) a.y)
      have h2 := insertV_le (insertV r a.x) a.y
      have h3 := insertV_le r a.x
      simp only [List.foldl_cons, List.length_cons]; omega
  simpa using this l []
theorem refVariables_spec (v : Value) (l : List Atom) (h : Ghost) (hv : Atoms h v l) (hl : l.length ≤ 100000) : SpecP Tryz.prog 18 [.agg #[v]] h fun u h' => Strs h' u (refVarsN l) := by
  obtain ⟨ao, cap, rfl, hcap⟩ := hv.shape
  refine SpecP.enter cl18 Tryz.func18 rfl Tryz.ntmps18 rfl fun E R => ?_
  refine Wc.seq ?_
  refine Wc.region ?_
  refine Wl.box rfl (by rfl) rfl (fun b1 => ?_)
  refine Wl.assign rfl rfl ?_
  refine Wl.nil ?_
  refine Wx.then_code ?_
  refine Wc.seq ?_
  refine Wc.region ?_
  refine Wl.buildSlice0 sl25 rfl (fun b2 => ?_)
  refine Wl.assign rfl rfl ?_
  refine Wl.nil ?_
  refine Wx.then_code ?_
  refine Wc.seq ?_
  refine Wc.seq ?_
  refine Wc.region ?_
  refine Wl.assign rfl rfl ?_
  refine Wl.nil ?_
  refine Wx.then_code ?_
  refine Wc.block ?_
  refine Wc.freeze fun _ => ?_
  have hg0 := Ghost.le_ext h [(b2, cells [] 9)]
  generalize h.ext [(b2, cells [] 9)] = g0 at hg0
  refine Wc.loop (ι := Nat × Value × Ghost) (fun x => x.1 ≤ l.length ∧ h.le x.2.2 ∧ Strs x.2.2 x.2.1 (refVarsN (l.take x.1))) (fun x => [(1, .pointer (some ⟨b1, 0, none⟩)), (3, x.2.1), (4, .int .i64 x.1)]) (fun x => x.2.2) (fun _ => _) (fun x => l.length - x.1) (0, _, g0)
    ⟨Nat.zero_le _, hg0, Sl.nil _ _ _ _ _⟩ (.cons rfl (.cons rfl (.cons rfl (.nil _)))) rfl rfl fun ⟨i, rv, g⟩ ⟨hi, hg, hrv⟩ => ?_
  dsimp only at hi hg hrv
  refine Wc.seq ?_
  refine Wc.seq ?_
  refine Wc.region ?_
  refine Wl.move rfl rfl ?_
  refine Wl.field fd24_0 rfl rfl ?_
  refine Wl.loadO ty22 rfl (by repeat (first | exact .here | apply Has.there)) rfl rfl ?_
  refine Wl.slLen Tryz.underlying22 rfl rfl ?_
  refine Wl.iLss rfl rfl rfl ?_
  refine Wl.nil ?_
  refine Wx.then_code ?_
  refine Wc.condS rfl (fun hc1 => ?_) (fun hc1 => ?_)
  refine Wc.skip ?_
  refine Wx.then_code ?_
  refine Wc.seq ?_
  refine Wc.block ?_
  have hlt : i < l.length := by have := of_decide_eq_true hc1; dsimp only at this; omega
  have hx := List.getElem?_eq_getElem hlt
  obtain ⟨b0, o0, hao, hel⟩ := hv.at (by omega)
  subst hao
  have hcell : Seg h b0 (o0 + i * 6) l[i].enc := by
    obtain ⟨vs, e, _, hs⟩ := hel i _ hx; exact e ▸ hs
  have hle := refVars_le (l.take i)
  have hli : (l.take i).length ≤ i := by rw [List.length_take]; omega
  have hstep : refVarsN (l.take (i + 1)) = insertV (insertV (refVarsN (l.take i)) l[i].x) l[i].y := by unfold refVarsN; rw [foldl_take_succ hx]
  have hlx := insertV_le (refVarsN (l.take i)) l[i].x
  apply Wc.draw (m := 14) (D := [[], [], [1], [], [2, 3], [4], [5], [0, 6], [], [8], [], [9, 10], [11], [12]]) (Ys := [.det _, .det _, .det _, .det _, .det (.pointer (some ⟨b0, o0 + i * 6, none⟩)), .det _, .det (.string l[i].x), .rel (fun _ v F g => F = [] ∧ Strs g v (insertV (refVarsN (l.take i)) l[i].x)), .det _, .det _, .det _, .det (.pointer (some ⟨b0, o0 + i * 6, none⟩)), .det _, .det (.string l[i].y)])
  · exact follows
  · kernel_rfl
  · rfl
  · rfl
  · rfl
  · skip
    apply Locs.mk
    · intro env K' h' S' hs hd hl hY
      refine Wl.move (hs _ _ rfl) rfl ?_
      refine Wl.nil ?_
      exact Wx.gives0 _ (Ghost.le.refl _) ⟨rfl, rfl⟩ (Sub.refl _)
    apply Locs.mk
    · intro env K' h' S' hs hd hl hY
      refine Wl.field fd24_0 (hs _ _ rfl) rfl ?_
      refine Wl.nil ?_
      exact Wx.gives0 _ (Ghost.le.refl _) ⟨rfl, rfl⟩ (Sub.refl _)
    apply Locs.mk
    · intro env K' h' S' hs hd hl hY
      refine Wl.loadO ty22 (detL (hd 1 (by decide)) (hY 1 (by decide))) (Has.right (by repeat (first | exact .here | apply Has.there))) rfl rfl ?_
      refine Wl.nil ?_
      exact Wx.gives0 _ (Ghost.le.refl _) ⟨rfl, rfl⟩ (Sub.refl _)
    apply Locs.mk
    · intro env K' h' S' hs hd hl hY
      refine Wl.move (hs _ _ rfl) rfl ?_
      refine Wl.nil ?_
      exact Wx.gives0 _ (Ghost.le.refl _) ⟨rfl, rfl⟩ (Sub.refl _)
    apply Locs.mk
    · intro env K' h' S' hs hd hl hY
      refine Wl.elem (j := i) sl22 (detL (hd 2 (by decide)) (hY 2 (by decide))) (detL (hd 3 (by decide)) (hY 3 (by decide))) rfl hlt rfl ?_
      refine Wl.nil ?_
      exact Wx.gives0 _ (Ghost.le.refl _) ⟨rfl, rfl⟩ (Sub.refl _)
    apply Locs.mk
    · intro env K' h' S' hs hd hl hY
      refine Wl.field fd37_2 (detL (hd 4 (by decide)) (hY 4 (by decide))) rfl ?_
      refine Wl.nil ?_
      exact Wx.gives0 _ (Ghost.le.refl _) ⟨rfl, rfl⟩ (Sub.refl _)
    apply Locs.mk
    · intro env K' h' S' hs hd hl hY
      refine Wl.loadG ty9 (detL (hd 5 (by decide)) (hY 5 (by decide))) (((hcell.mono hg).mono hl) 2 _ rfl) rfl ?_
      refine Wl.nil ?_
      exact Wx.gives0 _ (Ghost.le.refl _) ⟨rfl, rfl⟩ (Sub.refl _)
    apply Locs.mk
    · intro env K' h' S' hs hd hl hY
      refine Wl.callP rfl (evs2 (detL (hd 0 (by decide)) (hY 0 (by decide))) (detL (hd 6 (by decide)) (hY 6 (by decide)))) rfl (insert_spec rv _ l[i].x h' (hrv.mono hl) (by omega)) fun v h2 hl2 hv2 => ?_
      refine Wl.nil ?_
      exact Wx.gives0 _ hl2 ⟨rfl, hv2⟩ (Sub.refl _)
    apply Locs.mk
    · intro env K' h' S' hs hd hl hY
      refine Wl.field fd24_0 (hs _ _ rfl) rfl ?_
      refine Wl.nil ?_
      exact Wx.gives0 _ (Ghost.le.refl _) ⟨rfl, rfl⟩ (Sub.refl _)
    apply Locs.mk
    · intro env K' h' S' hs hd hl hY
      refine Wl.loadO ty22 (detL (hd 8 (by decide)) (hY 8 (by decide))) (Has.right (by repeat (first | exact .here | apply Has.there))) rfl rfl ?_
      refine Wl.nil ?_
      exact Wx.gives0 _ (Ghost.le.refl _) ⟨rfl, rfl⟩ (Sub.refl _)
    apply Locs.mk
    · intro env K' h' S' hs hd hl hY
      refine Wl.move (hs _ _ rfl) rfl ?_
      refine Wl.nil ?_
      exact Wx.gives0 _ (Ghost.le.refl _) ⟨rfl, rfl⟩ (Sub.refl _)
    apply Locs.mk
    · intro env K' h' S' hs hd hl hY
      refine Wl.elem (j := i) sl22 (detL (hd 9 (by decide)) (hY 9 (by decide))) (detL (hd 10 (by decide)) (hY 10 (by decide))) rfl hlt rfl ?_
      refine Wl.nil ?_
      exact Wx.gives0 _ (Ghost.le.refl _) ⟨rfl, rfl⟩ (Sub.refl _)
    apply Locs.mk
    · intro env K' h' S' hs hd hl hY
      refine Wl.field fd37_3 (detL (hd 11 (by decide)) (hY 11 (by decide))) rfl ?_
      refine Wl.nil ?_
      exact Wx.gives0 _ (Ghost.le.refl _) ⟨rfl, rfl⟩ (Sub.refl _)
    apply Locs.mk
    · intro env K' h' S' hs hd hl hY
      refine Wl.loadG ty9 (detL (hd 12 (by decide)) (hY 12 (by decide))) (((hcell.mono hg).mono hl) 3 _ rfl) rfl ?_
      refine Wl.nil ?_
      exact Wx.gives0 _ (Ghost.le.refl _) ⟨rfl, rfl⟩ (Sub.refl _)
    trivial
  · exact ⟨trivial, trivial, trivial, trivial, trivial, trivial, trivial, (fun _ _ _ _ _ hl H => ⟨H.1, Strs.mono H.2 hl⟩), trivial, trivial, trivial, trivial, trivial, trivial, trivial⟩
  intro h' hl'
  intro v7 F7 y7
  show Wl _ _ _ [_, _] _ ((26, _) :: (25, _) :: (24, _) :: (23, _) :: (22, _) :: (21, _) :: (20, _) :: (19, _) :: (18, _) :: (17, _) :: (16, _) :: (15, _) :: (14, _) :: (13, _) :: _) _ _ _
  obtain ⟨hF7, hv7⟩ := y7
  subst hF7
  refine Wl.drop ?_
  refine Wl.callP rfl rfl rfl (insert_spec v7 _ l[i].y h' hv7 (by omega)) fun v h2 hl2 hv2 => ?_
  refine Wl.assign rfl rfl ?_
  refine Wl.nil ?_
  refine Wx.block_normal ?_
  refine Wx.then_code ?_
  refine Wc.region ?_
  refine Wl.move rfl rfl ?_
  refine Wl.inc rfl rfl (by first | assumption | omega | (have hx := of_decide_eq_true hc1; omega)) ?_
  refine Wl.assign rfl rfl ?_
  refine Wl.nil ?_
  · exact Wx.again (i + 1, v, h2) ⟨hlt, (hg.trans hl').trans hl2, by dsimp only; rw [hstep]; exact hv2⟩ (show l.length - (i + 1) < l.length - i by omega) (.cons rfl (.cons rfl (.cons rfl (.nil _)))) rfl .refl
  refine Wc.exit ?_
  refine Wx.then_exit ?_
  refine Wx.then_exit ?_
  refine Wx.block_exit ?_
  refine Wx.then_code ?_
  refine Wc.seq ?_
  refine Wc.region ?_
  refine Wl.move rfl rfl ?_
  refine Wl.assign rfl rfl ?_
  refine Wl.nil ?_
  refine Wx.then_code ?_
  refine Wc.ret ?_
  have hi' : i = l.length := by have := of_decide_eq_false hc1; dsimp only at this; omega
  subst hi'
  refine Fin.slots (L := [_]) .ret (.inl rfl) (run_tmp rfl rfl) hg fun _ hle => ⟨rfl, ?_⟩
  rw [List.take_length] at hrv
  exact hrv.mono hle
end Go.Proofs.YtgpmjggdloldnaaGreatDoor

namespace Go.Proofs.YtgpmjggdloldnaaGreatDoor
open Go Go.Sx
set_option maxRecDepth 100000
def w64 (x : Int) : Int := IntKind.i64.wrap x
def addN (n : Int) (a : Atom) : Int := w64 (w64 (w64 (n + a.name.size) + a.x.size) + a.y.size)
def sizeN (l : List Atom) : Int := l.foldl addN 0
def fewB (l : List Atom) : Bool := !decide ((6 : Int) < l.length) && (decide (sizeN l ≤ 400) && decide (((refVarsN l).length : Int) ≤ 4))
theorem fewB_le {l : List Atom} (h : fewB l = true) : l.length ≤ 6 := by
  unfold fewB at h; simp at h; omega
theorem Few_spec (v : Value) (l : List Atom) (h : Ghost) (hv : Atoms h v l) : SpecV Tryz.prog 7 [.agg #[v]] h (.bool (fewB l)) := by
  obtain ⟨ao, cap, rfl, hcap⟩ := hv.shape
  refine SpecP.enter cl7 Tryz.func7 rfl Tryz.ntmps7 rfl fun E R => ?_
  refine Wc.seq ?_
  refine Wc.region ?_
  refine Wl.box rfl (by rfl) rfl (fun b1 => ?_)
  refine Wl.assign rfl rfl ?_
  refine Wl.nil ?_
  refine Wx.then_code ?_
  refine Wc.seq ?_
  refine Wc.seq ?_
  refine Wc.region ?_
  refine Wl.field fd24_0 rfl rfl ?_
  refine Wl.loadO ty22 rfl (by repeat (first | exact .here | apply Has.there)) rfl rfl ?_
  refine Wl.slLen Tryz.underlying22 rfl rfl ?_
  refine Wl.iGtr rfl rfl rfl ?_
  refine Wl.nil ?_
  refine Wx.then_code ?_
  refine Wc.condS rfl (fun hc1 => ?_) (fun hc1 => ?_)
  refine Wc.seq ?_
  refine Wc.region ?_
  refine Wl.assign rfl rfl ?_
  refine Wl.nil ?_
  refine Wx.then_code ?_
  refine Wc.ret ?_
  refine Wx.then_ret ?_
  · exact endV .ret (.inl rfl) rfl rfl [_] (Ghost.le.refl _) (by rw [fewB, show decide ((6 : Int) < l.length) = true from hc1]; rfl)
  refine Wc.skip ?_
  refine Wx.then_code ?_
  refine Wc.seq ?_
  refine Wc.region ?_
  refine Wl.assign rfl rfl ?_
  refine Wl.nil ?_
  refine Wx.then_code ?_
  refine Wc.seq ?_
  refine Wc.seq ?_
  refine Wc.region ?_
  refine Wl.assign rfl rfl ?_
  refine Wl.nil ?_
  refine Wx.then_code ?_
  refine Wc.block ?_
  have h6 : decide ((6 : Int) < l.length) = false := hc1
  have hl : l.length ≤ 100000 := by have := of_decide_eq_false h6; omega
  refine Wc.loop (ι := Nat) (fun i => i ≤ l.length) (fun i => [(1, .pointer (some ⟨b1, 0, none⟩)), (3, .int .i64 (sizeN (l.take i))), (4, .int .i64 i)]) (fun _ => _) (fun _ => _) (fun i => l.length - i) 0
    (Nat.zero_le _) (.cons rfl (.cons rfl (.cons rfl (.nil _)))) rfl rfl fun i hi => ?_
  refine Wc.seq ?_
  refine Wc.seq ?_
  refine Wc.region ?_
  refine Wl.move rfl rfl ?_
  refine Wl.field fd24_0 rfl rfl ?_
  refine Wl.loadO ty22 rfl (by repeat (first | exact .here | apply Has.there)) rfl rfl ?_
  refine Wl.slLen Tryz.underlying22 rfl rfl ?_
  refine Wl.iLss rfl rfl rfl ?_
  refine Wl.nil ?_
  refine Wx.then_code ?_
  refine Wc.condS rfl (fun hc2 => ?_) (fun hc2 => ?_)
  refine Wc.skip ?_
  refine Wx.then_code ?_
  refine Wc.seq ?_
  refine Wc.block ?_
  have hlt : i < l.length := by have := of_decide_eq_true hc2; omega
  have hx := List.getElem?_eq_getElem hlt
  obtain ⟨b0, o0, hao, hel⟩ := hv.at (by omega)
  subst hao
  have hcell : Seg h b0 (o0 + i * 6) l[i].enc := by
    obtain ⟨vs, e, _, hs⟩ := hel i _ hx; exact e ▸ hs
  have hstep : sizeN (l.take (i + 1)) = addN (sizeN (l.take i)) l[i] := by unfold sizeN; rw [foldl_take_succ hx]
  apply Wc.draw (m := 25) (D := [[], [], [1], [], [2, 3], [4], [5], [6], [0, 7], [], [9], [], [10, 11], [12], [13], [14], [8, 15], [], [17], [], [18, 19], [20], [21], [22], [16, 23]]) (Ys := [.det _, .det _, .det _, .det _, .det (.pointer (some ⟨b0, o0 + i * 6, none⟩)), .det _, .det (.string l[i].name), .det _, .det (.int .i64 (w64 (sizeN (l.take i) + l[i].name.size))), .det _, .det _, .det _, .det (.pointer (some ⟨b0, o0 + i * 6, none⟩)), .det _, .det (.string l[i].x), .det _, .det (.int .i64 (w64 (w64 (sizeN (l.take i) + l[i].name.size) + l[i].x.size))), .det _, .det _, .det _, .det (.pointer (some ⟨b0, o0 + i * 6, none⟩)), .det _, .det (.string l[i].y), .det _, .det (.int .i64 (addN (sizeN (l.take i)) l[i]))])
  · exact follows
  · kernel_rfl
  · rfl
  · rfl
  · rfl
  · skip
    apply Locs.mk
    · intro env K' h' S' hs hd hl hY
      refine Wl.move (hs _ _ rfl) rfl ?_
      refine Wl.nil ?_
      exact Wx.gives0 _ (Ghost.le.refl _) ⟨rfl, rfl⟩ (Sub.refl _)
    apply Locs.mk
    · intro env K' h' S' hs hd hl hY
      refine Wl.field fd24_0 (hs _ _ rfl) rfl ?_
      refine Wl.nil ?_
      exact Wx.gives0 _ (Ghost.le.refl _) ⟨rfl, rfl⟩ (Sub.refl _)
    apply Locs.mk
    · intro env K' h' S' hs hd hl hY
      refine Wl.loadO ty22 (detL (hd 1 (by decide)) (hY 1 (by decide))) (Has.right (by repeat (first | exact .here | apply Has.there))) rfl rfl ?_
      refine Wl.nil ?_
      exact Wx.gives0 _ (Ghost.le.refl _) ⟨rfl, rfl⟩ (Sub.refl _)
    apply Locs.mk
    · intro env K' h' S' hs hd hl hY
      refine Wl.move (hs _ _ rfl) rfl ?_
      refine Wl.nil ?_
      exact Wx.gives0 _ (Ghost.le.refl _) ⟨rfl, rfl⟩ (Sub.refl _)
    apply Locs.mk
    · intro env K' h' S' hs hd hl hY
      refine Wl.elem (j := i) sl22 (detL (hd 2 (by decide)) (hY 2 (by decide))) (detL (hd 3 (by decide)) (hY 3 (by decide))) rfl hlt rfl ?_
      refine Wl.nil ?_
      exact Wx.gives0 _ (Ghost.le.refl _) ⟨rfl, rfl⟩ (Sub.refl _)
    apply Locs.mk
    · intro env K' h' S' hs hd hl hY
      refine Wl.field fd37_1 (detL (hd 4 (by decide)) (hY 4 (by decide))) rfl ?_
      refine Wl.nil ?_
      exact Wx.gives0 _ (Ghost.le.refl _) ⟨rfl, rfl⟩ (Sub.refl _)
    apply Locs.mk
    · intro env K' h' S' hs hd hl hY
      refine Wl.loadG ty9 (detL (hd 5 (by decide)) (hY 5 (by decide))) ((hcell.mono hl) 1 _ rfl) rfl ?_
      refine Wl.nil ?_
      exact Wx.gives0 _ (Ghost.le.refl _) ⟨rfl, rfl⟩ (Sub.refl _)
    apply Locs.mk
    · intro env K' h' S' hs hd hl hY
      refine Wl.sLen Tryz.underlying9 (detL (hd 6 (by decide)) (hY 6 (by decide))) rfl ?_
      refine Wl.nil ?_
      exact Wx.gives0 _ (Ghost.le.refl _) ⟨rfl, rfl⟩ (Sub.refl _)
    apply Locs.mk
    · intro env K' h' S' hs hd hl hY
      refine Wl.iAdd (detL (hd 0 (by decide)) (hY 0 (by decide))) (detL (hd 7 (by decide)) (hY 7 (by decide))) rfl rfl ?_
      refine Wl.nil ?_
      exact Wx.gives0 _ (Ghost.le.refl _) ⟨rfl, rfl⟩ (Sub.refl _)
    apply Locs.mk
    · intro env K' h' S' hs hd hl hY
      refine Wl.field fd24_0 (hs _ _ rfl) rfl ?_
      refine Wl.nil ?_
      exact Wx.gives0 _ (Ghost.le.refl _) ⟨rfl, rfl⟩ (Sub.refl _)
    apply Locs.mk
    · intro env K' h' S' hs hd hl hY
      refine Wl.loadO ty22 (detL (hd 9 (by decide)) (hY 9 (by decide))) (Has.right (by repeat (first | exact .here | apply Has.there))) rfl rfl ?_
      refine Wl.nil ?_
      exact Wx.gives0 _ (Ghost.le.refl _) ⟨rfl, rfl⟩ (Sub.refl _)
    apply Locs.mk
    · intro env K' h' S' hs hd hl hY
      refine Wl.move (hs _ _ rfl) rfl ?_
      refine Wl.nil ?_
      exact Wx.gives0 _ (Ghost.le.refl _) ⟨rfl, rfl⟩ (Sub.refl _)
    apply Locs.mk
    · intro env K' h' S' hs hd hl hY
      refine Wl.elem (j := i) sl22 (detL (hd 10 (by decide)) (hY 10 (by decide))) (detL (hd 11 (by decide)) (hY 11 (by decide))) rfl hlt rfl ?_
      refine Wl.nil ?_
      exact Wx.gives0 _ (Ghost.le.refl _) ⟨rfl, rfl⟩ (Sub.refl _)
    apply Locs.mk
    · intro env K' h' S' hs hd hl hY
      refine Wl.field fd37_2 (detL (hd 12 (by decide)) (hY 12 (by decide))) rfl ?_
      refine Wl.nil ?_
      exact Wx.gives0 _ (Ghost.le.refl _) ⟨rfl, rfl⟩ (Sub.refl _)
    apply Locs.mk
    · intro env K' h' S' hs hd hl hY
      refine Wl.loadG ty9 (detL (hd 13 (by decide)) (hY 13 (by decide))) ((hcell.mono hl) 2 _ rfl) rfl ?_
      refine Wl.nil ?_
      exact Wx.gives0 _ (Ghost.le.refl _) ⟨rfl, rfl⟩ (Sub.refl _)
    apply Locs.mk
    · intro env K' h' S' hs hd hl hY
      refine Wl.sLen Tryz.underlying9 (detL (hd 14 (by decide)) (hY 14 (by decide))) rfl ?_
      refine Wl.nil ?_
      exact Wx.gives0 _ (Ghost.le.refl _) ⟨rfl, rfl⟩ (Sub.refl _)
    apply Locs.mk
    · intro env K' h' S' hs hd hl hY
      refine Wl.iAdd (detL (hd 8 (by decide)) (hY 8 (by decide))) (detL (hd 15 (by decide)) (hY 15 (by decide))) rfl rfl ?_
      refine Wl.nil ?_
      exact Wx.gives0 _ (Ghost.le.refl _) ⟨rfl, rfl⟩ (Sub.refl _)
    apply Locs.mk
    · intro env K' h' S' hs hd hl hY
      refine Wl.field fd24_0 (hs _ _ rfl) rfl ?_
      refine Wl.nil ?_
      exact Wx.gives0 _ (Ghost.le.refl _) ⟨rfl, rfl⟩ (Sub.refl _)
    apply Locs.mk
    · intro env K' h' S' hs hd hl hY
      refine Wl.loadO ty22 (detL (hd 17 (by decide)) (hY 17 (by decide))) (Has.right (by repeat (first | exact .here | apply Has.there))) rfl rfl ?_
      refine Wl.nil ?_
      exact Wx.gives0 _ (Ghost.le.refl _) ⟨rfl, rfl⟩ (Sub.refl _)
    apply Locs.mk
    · intro env K' h' S' hs hd hl hY
      refine Wl.move (hs _ _ rfl) rfl ?_
      refine Wl.nil ?_
      exact Wx.gives0 _ (Ghost.le.refl _) ⟨rfl, rfl⟩ (Sub.refl _)
    apply Locs.mk
    · intro env K' h' S' hs hd hl hY
      refine Wl.elem (j := i) sl22 (detL (hd 18 (by decide)) (hY 18 (by decide))) (detL (hd 19 (by decide)) (hY 19 (by decide))) rfl hlt rfl ?_
      refine Wl.nil ?_
      exact Wx.gives0 _ (Ghost.le.refl _) ⟨rfl, rfl⟩ (Sub.refl _)
    apply Locs.mk
    · intro env K' h' S' hs hd hl hY
      refine Wl.field fd37_3 (detL (hd 20 (by decide)) (hY 20 (by decide))) rfl ?_
      refine Wl.nil ?_
      exact Wx.gives0 _ (Ghost.le.refl _) ⟨rfl, rfl⟩ (Sub.refl _)
    apply Locs.mk
    · intro env K' h' S' hs hd hl hY
      refine Wl.loadG ty9 (detL (hd 21 (by decide)) (hY 21 (by decide))) ((hcell.mono hl) 3 _ rfl) rfl ?_
      refine Wl.nil ?_
      exact Wx.gives0 _ (Ghost.le.refl _) ⟨rfl, rfl⟩ (Sub.refl _)
    apply Locs.mk
    · intro env K' h' S' hs hd hl hY
      refine Wl.sLen Tryz.underlying9 (detL (hd 22 (by decide)) (hY 22 (by decide))) rfl ?_
      refine Wl.nil ?_
      exact Wx.gives0 _ (Ghost.le.refl _) ⟨rfl, rfl⟩ (Sub.refl _)
    apply Locs.mk
    · intro env K' h' S' hs hd hl hY
      refine Wl.iAdd (detL (hd 16 (by decide)) (hY 16 (by decide))) (detL (hd 23 (by decide)) (hY 23 (by decide))) rfl rfl ?_
      refine Wl.nil ?_
      exact Wx.gives0 _ (Ghost.le.refl _) ⟨rfl, rfl⟩ (Sub.refl _)
    trivial
  · exact ⟨trivial, trivial, trivial, trivial, trivial, trivial, trivial, trivial, trivial, trivial, trivial, trivial, trivial, trivial, trivial, trivial, trivial, trivial, trivial, trivial, trivial, trivial, trivial, trivial, trivial, trivial⟩
  intro h' hl'
  show Wl _ _ _ [_] _ ((40, _) :: (39, _) :: (38, _) :: (37, _) :: (36, _) :: (35, _) :: (34, _) :: (33, _) :: (32, _) :: (31, _) :: (30, _) :: (29, _) :: (28, _) :: (27, _) :: (26, _) :: (25, _) :: (24, _) :: (23, _) :: (22, _) :: (21, _) :: (20, _) :: (19, _) :: (18, _) :: (17, _) :: (16, _) :: _) _ _ _
  refine Wl.assign rfl rfl ?_
  refine Wl.nil ?_
  refine Wx.block_normal ?_
  refine Wx.then_code ?_
  refine Wc.region ?_
  refine Wl.move rfl rfl ?_
  refine Wl.inc rfl rfl (by first | assumption | omega | (have hx := of_decide_eq_true hc2; omega) | (have hx := of_decide_eq_true hc1; omega)) ?_
  refine Wl.assign rfl rfl ?_
  refine Wl.nil ?_
  · exact Wx.weak hl' (Wx.again (i + 1) hlt (by omega) (.cons rfl (.cons (show some _ = some (Value.int .i64 (sizeN (l.take (i + 1)))) by rw [hstep]) (.cons rfl (.nil _)))) rfl .refl)
  refine Wc.exit ?_
  refine Wx.then_exit ?_
  refine Wx.then_exit ?_
  refine Wx.block_exit ?_
  refine Wx.then_code ?_
  refine Wc.seq ?_
  refine Wc.region ?_
  refine Wl.move rfl rfl ?_
  refine Wl.iLeq rfl rfl rfl ?_
  refine Wl.move rfl rfl ?_
  apply Wl.andB (l1 := [_, _, _, _, _]) (i := 43) (d := 48)
  · rfl
  · intro hg3
    refine Wl.guardYes rfl rfl ?_
    refine Wl.loadOA ty24 rfl (by repeat (first | exact .here | apply Has.there)) rfl rfl ?_
    refine Wl.guardYes rfl rfl ?_
    refine Wl.callP rfl rfl rfl (refVariables_spec _ l h hv hl) fun rv h2 hl2 hrv => ?_
    obtain ⟨ro, rc, rfl, _⟩ := hrv.shape
    refine Wl.weak hl2 ?_
    refine Wl.guardYes rfl rfl ?_
    refine Wl.slLen Tryz.underlying25 rfl rfl ?_
    refine Wl.guardYes rfl rfl ?_
    refine Wl.iLeq rfl rfl rfl ?_
    refine Wl.pickT rfl rfl rfl ?_
    refine Wl.nil ?_
    exact Wx.reach (.cons rfl (.skip rfl (.skip rfl (.skip rfl (.skip rfl (.skip rfl (.same rfl (by rw [hg3]) (.refl _))))))))
  · intro hg3
    refine Wl.guardNo rfl rfl rfl rfl ?_
    refine Wl.guardNo rfl rfl rfl rfl ?_
    refine Wl.guardNo rfl rfl rfl rfl ?_
    refine Wl.guardNo rfl rfl rfl rfl ?_
    refine Wl.pickF rfl rfl rfl ?_
    refine Wl.nil ?_
    exact Wx.reach (.cons rfl (.skip rfl (.skip rfl (.skip rfl (.skip rfl (.skip rfl (.same rfl (by rw [hg3]) (.refl _))))))))
  refine Wl.assign rfl rfl ?_
  refine Wl.nil ?_
  refine Wx.then_code ?_
  refine Wc.ret ?_
  refine endV .ret (.inl rfl) rfl rfl [_] (Ghost.le.refl _) ?_
  have hi' : i = l.length := by have := of_decide_eq_false hc2; omega
  rw [fewB, h6, hi', List.take_length]; rfl
def mkRole (n x y : ByteArray) : Atom := ⟨2, n, x, y, 0, 0⟩
def mkSpan (n x : ByteArray) (lo hi : Int) : Atom := ⟨3, n, x, emp, lo, hi⟩
def mkConcept (n x : ByteArray) : Atom := ⟨1, n, x, emp, 0, 0⟩
theorem role_spec (n x y : ByteArray) (h : Ghost) : SpecV Tryz.prog 15 [.string n, .string x, .string y] h (.agg (mkRole n x y).enc.toArray) := by
  refine SpecP.enter cl15 Tryz.func15 rfl Tryz.ntmps15 rfl fun E R => ?_
  refine Wc.seq ?_
  refine Wc.region ?_
  refine Wl.alloc ty37 rfl rfl (fun b1 => ?_)
  refine Wl.nil ?_
  refine Wx.then_code ?_
  refine Wc.seq ?_
  refine Wc.region ?_
  refine Wl.move rfl rfl ?_
  refine Wl.move rfl rfl ?_
  refine Wl.move rfl rfl ?_
  refine Wl.build bd37 rfl (by repeat (first | rfl | exact .nil | exact .here | apply SetL.there | apply SetLs.cons | apply FillR.cons)) rfl ?_
  refine Wl.storeA ty37 rfl rfl (by rfl) (by repeat (first | exact .here | apply Upd.there)) (by rfl) (by rfl) (by rfl) ?_
  refine Wl.nil ?_
  refine Wx.then_code ?_
  refine Wc.ret ?_
  exact Fin.slots (L := [_]) .ret (.inl rfl) (run_cellA rfl ty37 rfl .here rfl) (Ghost.le.refl _) fun _ _ => ⟨rfl, rfl⟩
theorem span_spec (n x : ByteArray) (lo hi : Int) (h : Ghost) : SpecV Tryz.prog 16 [.string n, .string x, .int .i64 lo, .int .i64 hi] h (.agg (mkSpan n x lo hi).enc.toArray) := by
  refine SpecP.enter cl16 Tryz.func16 rfl Tryz.ntmps16 rfl fun E R => ?_
  refine Wc.seq ?_
  refine Wc.region ?_
  refine Wl.alloc ty37 rfl rfl (fun b1 => ?_)
  refine Wl.nil ?_
  refine Wx.then_code ?_
  refine Wc.seq ?_
  refine Wc.region ?_
  refine Wl.move rfl rfl ?_
  refine Wl.move rfl rfl ?_
  refine Wl.move rfl rfl ?_
  refine Wl.move rfl rfl ?_
  refine Wl.build bd37 rfl (by repeat (first | rfl | exact .nil | exact .here | apply SetL.there | apply SetLs.cons | apply FillR.cons)) rfl ?_
  refine Wl.storeA ty37 rfl rfl (by rfl) (by repeat (first | exact .here | apply Upd.there)) (by rfl) (by rfl) (by rfl) ?_
  refine Wl.nil ?_
  refine Wx.then_code ?_
  refine Wc.ret ?_
  exact Fin.slots (L := [_]) .ret (.inl rfl) (run_cellA rfl ty37 rfl .here rfl) (Ghost.le.refl _) fun _ _ => ⟨rfl, rfl⟩
theorem concept_spec (n x : ByteArray) (h : Ghost) : SpecV Tryz.prog 17 [.string n, .string x] h (.agg (mkConcept n x).enc.toArray) := by
  refine SpecP.enter cl17 Tryz.func17 rfl Tryz.ntmps17 rfl fun E R => ?_
  refine Wc.seq ?_
  refine Wc.region ?_
  refine Wl.alloc ty37 rfl rfl (fun b1 => ?_)
  refine Wl.nil ?_
  refine Wx.then_code ?_
  refine Wc.seq ?_
  refine Wc.region ?_
  refine Wl.move rfl rfl ?_
  refine Wl.move rfl rfl ?_
  refine Wl.build bd37 rfl (by repeat (first | rfl | exact .nil | exact .here | apply SetL.there | apply SetLs.cons | apply FillR.cons)) rfl ?_
  refine Wl.storeA ty37 rfl rfl (by rfl) (by repeat (first | exact .here | apply Upd.there)) (by rfl) (by rfl) (by rfl) ?_
  refine Wl.nil ?_
  refine Wx.then_code ?_
  refine Wc.ret ?_
  exact Fin.slots (L := [_]) .ret (.inl rfl) (run_cellA rfl ty37 rfl .here rfl) (Ghost.le.refl _) fun _ _ => ⟨rfl, rfl⟩
theorem part_spec (a : Option Addr) (n c : Nat) (h : Ghost) : SpecV Tryz.prog 9 [.slice a n c] h (.agg #[.slice a n c]) := by
  refine SpecP.enter cl9 Tryz.func9 rfl Tryz.ntmps9 rfl fun E R => ?_
  refine Wc.seq ?_
  refine Wc.region ?_
  refine Wl.alloc ty24 rfl rfl (fun b1 => ?_)
  refine Wl.nil ?_
  refine Wx.then_code ?_
  refine Wc.seq ?_
  refine Wc.region ?_
  refine Wl.move rfl rfl ?_
  refine Wl.build bd24 rfl (by repeat (first | rfl | exact .nil | exact .here | apply SetL.there | apply SetLs.cons | apply FillR.cons)) rfl ?_
  refine Wl.storeA ty24 rfl rfl (by rfl) (by repeat (first | exact .here | apply Upd.there)) (by rfl) (by rfl) (by rfl) ?_
  refine Wl.nil ?_
  refine Wx.then_code ?_
  refine Wc.ret ?_
  exact Fin.slots (L := [_]) .ret (.inl rfl) (run_cellA rfl ty24 rfl .here rfl) (Ghost.le.refl _) fun _ _ => ⟨rfl, rfl⟩
def sameB (a b : List Atom) : Bool := decide (a = b)
theorem SamePart_spec (av bv : Value) (a b : List Atom) (h : Ghost) (ha : Atoms h av a) (hb : Atoms h bv b) (hla : a.length ≤ 1000000) (hlb : b.length ≤ 1000000) : SpecV Tryz.prog 11 [.agg #[av], .agg #[bv]] h (.bool (sameB a b)) := by
  obtain ⟨ao, ac, rfl, hac⟩ := ha.shape
  obtain ⟨bo, bc, rfl, hbc⟩ := hb.shape
  refine SpecP.enter cl11 Tryz.func11 rfl Tryz.ntmps11 rfl fun E R => ?_
  refine Wc.seq ?_
  refine Wc.region ?_
  refine Wl.box rfl (by rfl) rfl (fun b1 => ?_)
  refine Wl.box rfl (by rfl) rfl (fun b2 => ?_)
  refine Wl.assign rfl rfl ?_
  refine Wl.nil ?_
  refine Wx.then_code ?_
  refine Wc.seq ?_
  refine Wc.seq ?_
  refine Wc.region ?_
  refine Wl.field fd24_0 rfl rfl ?_
  refine Wl.loadO ty22 rfl (by repeat (first | exact .here | apply Has.there)) rfl rfl ?_
  refine Wl.slLen Tryz.underlying22 rfl rfl ?_
  refine Wl.field fd24_0 rfl rfl ?_
  refine Wl.loadO ty22 rfl (by repeat (first | exact .here | apply Has.there)) rfl rfl ?_
  refine Wl.slLen Tryz.underlying22 rfl rfl ?_
  refine Wl.iNeq rfl rfl rfl ?_
  refine Wl.nil ?_
  refine Wx.then_code ?_
  refine Wc.condS rfl (fun hc1 => ?_) (fun hc1 => ?_)
  refine Wc.seq ?_
  refine Wc.region ?_
  refine Wl.assign rfl rfl ?_
  refine Wl.nil ?_
  refine Wx.then_code ?_
  refine Wc.ret ?_
  refine Wx.then_ret ?_
  · exact endV .ret (.inl rfl) rfl rfl [_, _] (Ghost.le.refl _) (by
      rw [sameB, decide_eq_false]; rintro rfl; simp at hc1)
  refine Wc.skip ?_
  refine Wx.then_code ?_
  refine Wc.seq ?_
  refine Wc.seq ?_
  refine Wc.region ?_
  refine Wl.assign rfl rfl ?_
  refine Wl.nil ?_
  refine Wx.then_code ?_
  refine Wc.block ?_
  have hlen : a.length = b.length := by have := hc1; simp at this; omega
  refine Wc.loop (ι := Nat) (fun i => i ≤ a.length ∧ a.take i = b.take i) (fun i => [(2, .pointer (some ⟨b1, 0, none⟩)), (3, .pointer (some ⟨b2, 0, none⟩)), (5, .int .i64 i)]) (fun _ => _) (fun _ => _) (fun i => a.length - i) 0
    ⟨Nat.zero_le _, rfl⟩ (.cons rfl (.cons rfl (.cons rfl (.nil _)))) rfl rfl fun i ⟨hi, heq⟩ => ?_
  refine Wc.seq ?_
  refine Wc.seq ?_
  refine Wc.region ?_
  refine Wl.move rfl rfl ?_
  refine Wl.field fd24_0 rfl rfl ?_
  refine Wl.loadO ty22 rfl (by repeat (first | exact .here | apply Has.there)) rfl rfl ?_
  refine Wl.slLen Tryz.underlying22 rfl rfl ?_
  refine Wl.iLss rfl rfl rfl ?_
  refine Wl.nil ?_
  refine Wx.then_code ?_
  refine Wc.condS rfl (fun hc2 => ?_) (fun hc2 => ?_)
  refine Wc.skip ?_
  refine Wx.then_code ?_
  refine Wc.seq ?_
  refine Wc.block ?_
  refine Wc.seq ?_
  have hlt : i < a.length := by have := of_decide_eq_true hc2; omega
  have hlt2 : i < b.length := by omega
  have hx := List.getElem?_eq_getElem hlt
  have hy := List.getElem?_eq_getElem hlt2
  obtain ⟨a0, ao0, hao, hela⟩ := ha.at (by omega)
  obtain ⟨b0, bo0, hbo, helb⟩ := hb.at (by omega)
  subst hao hbo
  have hca : Seg h a0 (ao0 + i * 6) a[i].enc := by
    obtain ⟨vs, e, _, hs⟩ := hela i _ hx; exact e ▸ hs
  have hcb : Seg h b0 (bo0 + i * 6) b[i].enc := by
    obtain ⟨vs, e, _, hs⟩ := helb i _ hy; exact e ▸ hs
  apply Wc.draw (m := 11) (D := [[], [0], [], [1, 2], [3], [], [5], [], [6, 7], [8], [4, 9]]) (Ys := [.det _, .det _, .det _, .det (.pointer (some ⟨a0, ao0 + i * 6, none⟩)), .det (.agg a[i].enc.toArray), .det _, .det _, .det _, .det (.pointer (some ⟨b0, bo0 + i * 6, none⟩)), .det (.agg b[i].enc.toArray), .det (.bool (!(decide (a[i] = b[i]))))])
  · exact follows
  · kernel_rfl
  · rfl
  · rfl
  · rfl
  · skip
    apply Locs.mk
    · intro env K' h' S' hs hd hl hY
      refine Wl.field fd24_0 (hs _ _ rfl) rfl ?_
      refine Wl.nil ?_
      exact Wx.gives0 _ (Ghost.le.refl _) ⟨rfl, rfl⟩ (Sub.refl _)
    apply Locs.mk
    · intro env K' h' S' hs hd hl hY
      refine Wl.loadO ty22 (detL (hd 0 (by decide)) (hY 0 (by decide))) (Has.right (by repeat (first | exact .here | apply Has.there))) rfl rfl ?_
      refine Wl.nil ?_
      exact Wx.gives0 _ (Ghost.le.refl _) ⟨rfl, rfl⟩ (Sub.refl _)
    apply Locs.mk
    · intro env K' h' S' hs hd hl hY
      refine Wl.move (hs _ _ rfl) rfl ?_
      refine Wl.nil ?_
      exact Wx.gives0 _ (Ghost.le.refl _) ⟨rfl, rfl⟩ (Sub.refl _)
    apply Locs.mk
    · intro env K' h' S' hs hd hl hY
      refine Wl.elem (j := i) sl22 (detL (hd 1 (by decide)) (hY 1 (by decide))) (detL (hd 2 (by decide)) (hY 2 (by decide))) rfl hlt rfl ?_
      refine Wl.nil ?_
      exact Wx.gives0 _ (Ghost.le.refl _) ⟨rfl, rfl⟩ (Sub.refl _)
    apply Locs.mk
    · intro env K' h' S' hs hd hl hY
      refine Wl.loadGA ty37 (detL (hd 3 (by decide)) (hY 3 (by decide))) (hca.mono hl) rfl rfl ?_
      refine Wl.nil ?_
      exact Wx.gives0 _ (Ghost.le.refl _) ⟨rfl, rfl⟩ (Sub.refl _)
    apply Locs.mk
    · intro env K' h' S' hs hd hl hY
      refine Wl.field fd24_0 (hs _ _ rfl) rfl ?_
      refine Wl.nil ?_
      exact Wx.gives0 _ (Ghost.le.refl _) ⟨rfl, rfl⟩ (Sub.refl _)
    apply Locs.mk
    · intro env K' h' S' hs hd hl hY
      refine Wl.loadO ty22 (detL (hd 5 (by decide)) (hY 5 (by decide))) (Has.right (by repeat (first | exact .here | apply Has.there))) rfl rfl ?_
      refine Wl.nil ?_
      exact Wx.gives0 _ (Ghost.le.refl _) ⟨rfl, rfl⟩ (Sub.refl _)
    apply Locs.mk
    · intro env K' h' S' hs hd hl hY
      refine Wl.move (hs _ _ rfl) rfl ?_
      refine Wl.nil ?_
      exact Wx.gives0 _ (Ghost.le.refl _) ⟨rfl, rfl⟩ (Sub.refl _)
    apply Locs.mk
    · intro env K' h' S' hs hd hl hY
      refine Wl.elem (j := i) sl22 (detL (hd 6 (by decide)) (hY 6 (by decide))) (detL (hd 7 (by decide)) (hY 7 (by decide))) rfl hlt2 rfl ?_
      refine Wl.nil ?_
      exact Wx.gives0 _ (Ghost.le.refl _) ⟨rfl, rfl⟩ (Sub.refl _)
    apply Locs.mk
    · intro env K' h' S' hs hd hl hY
      refine Wl.loadGA ty37 (detL (hd 8 (by decide)) (hY 8 (by decide))) (hcb.mono hl) rfl rfl ?_
      refine Wl.nil ?_
      exact Wx.gives0 _ (Ghost.le.refl _) ⟨rfl, rfl⟩ (Sub.refl _)
    apply Locs.mk
    · intro env K' h' S' hs hd hl hY
      refine Wl.aNeq a[i] b[i] eqAtom (detL (hd 4 (by decide)) (hY 4 (by decide))) (detL (hd 9 (by decide)) (hY 9 (by decide))) rfl ?_
      refine Wl.nil ?_
      exact Wx.gives0 _ (Ghost.le.refl _) ⟨rfl, rfl⟩ (Sub.refl _)
    trivial
  · exact ⟨trivial, trivial, trivial, trivial, trivial, trivial, trivial, trivial, trivial, trivial, trivial, trivial⟩
  intro h' hl'
  show Wl _ _ _ [] _ ((30, _) :: (29, _) :: (28, _) :: (27, _) :: (26, _) :: (25, _) :: (24, _) :: (23, _) :: (22, _) :: (21, _) :: (20, _) :: _) _ _ _
  refine Wl.nil ?_
  refine Wx.then_code ?_
  refine Wc.condS rfl (fun hc3 => ?_) (fun hc3 => ?_)
  refine Wc.seq ?_
  refine Wc.region ?_
  refine Wl.assign rfl rfl ?_
  refine Wl.nil ?_
  refine Wx.then_code ?_
  refine Wc.ret ?_
  refine Wx.block_ret ?_
  refine Wx.then_ret ?_
  refine Wx.then_ret ?_
  refine Wx.block_ret ?_
  refine Wx.then_ret ?_
  · exact endV .ret (.inl rfl) rfl rfl [_, _] hl' (by
      rw [sameB, decide_eq_false]; rintro rfl; simp at hc3)
  refine Wc.skip ?_
  refine Wx.block_normal ?_
  refine Wx.then_code ?_
  refine Wc.region ?_
  refine Wl.move rfl rfl ?_
  refine Wl.inc rfl rfl (by first | assumption | omega | (have hx := of_decide_eq_true hc3; omega) | (have hx := of_decide_eq_true hc2; omega) | (have hx := of_decide_eq_true hc1; omega)) ?_
  refine Wl.assign rfl rfl ?_
  refine Wl.nil ?_
  · refine Wx.weak hl' (Wx.again (i + 1) ⟨hlt, ?_⟩ (by omega) (.cons rfl (.cons rfl (.cons rfl (.nil _)))) rfl .refl)
    have : a[i] = b[i] := by simpa using hc3
    rw [List.take_add_one, List.take_add_one, hx, hy, heq, this]
  refine Wc.exit ?_
  refine Wx.then_exit ?_
  refine Wx.then_exit ?_
  refine Wx.block_exit ?_
  refine Wx.then_code ?_
  refine Wc.seq ?_
  refine Wc.region ?_
  refine Wl.assign rfl rfl ?_
  refine Wl.nil ?_
  refine Wx.then_code ?_
  refine Wc.ret ?_
  · have hi' : i = a.length := by have := of_decide_eq_false hc2; omega
    rw [hi', List.take_length, hlen, List.take_length] at heq
    exact endV .ret (.inl rfl) rfl rfl [_, _] (Ghost.le.refl _) (by rw [sameB, decide_eq_true heq])
end Go.Proofs.YtgpmjggdloldnaaGreatDoor
