/-
  Contracts and plain lemmas, joined: T17, T18, T19, T20, T21, T22, T23
-/
import Derived.Test.YtgpmjggdloldnaaGreatDoorPartB
import Derived.Test.YtgpmjggdloldnaaGreatDoorSortLay
namespace Go.Proofs.YtgpmjggdloldnaaGreatDoor
open Go Go.Sx
set_option maxRecDepth 100000
theorem _root_.Go.Sx.Sl.map {α : Type} {h : Ghost} {enc : α → List Value} {k : Nat} {v : Value} {l : List α} (H : Sl h (fun x vs => vs = enc x) k v l) : Raw h k v (l.map enc) := by
  obtain ⟨ao, cap, rfl, hc, r⟩ := H
  refine ⟨ao, cap, by simp, by simpa using hc, ?_⟩
  rcases r with rfl | ⟨b, o, rfl, r⟩
  · exact .inl rfl
  · refine .inr ⟨b, o, rfl, fun i vs hv => ?_⟩
    simp only [List.getElem?_map, Option.map_eq_some_iff] at hv
    obtain ⟨x, hx, rfl⟩ := hv
    obtain ⟨us, e1, e2, e3⟩ := r i x hx
    exact ⟨us, e1, e2, e3⟩
theorem _root_.Go.Sx.Sl.unmap {α : Type} {h : Ghost} {enc : α → List Value} {k : Nat} {v : Value} {l : List α} (H : Raw h k v (l.map enc)) : Sl h (fun x vs => vs = enc x) k v l :=
  Sl.unraw (by simp) (fun i x hx => ⟨enc x, by simp [hx], rfl⟩) H
theorem fitsAtoms (l : List Atom) : Fits 6 (l.map Atom.enc) := by
  refine ⟨fun vs hv => ?_, fun vs hv => ?_⟩
  · obtain ⟨a, _, rfl⟩ := List.mem_map.1 hv; rfl
  · obtain ⟨a, _, rfl⟩ := List.mem_map.1 hv; exact one_atom a
/-- the address of a slice that is not empty -/
theorem _root_.Go.Sx.Sl.at {α : Type} {h : Ghost} {R : α → List Value → Prop} {k n cap : Nat} {ao : Option Addr} {l : List α} (H : Sl h R k (.slice ao n cap) l) (hl : 0 < l.length) :
    ∃ b o, ao = some ⟨b, o, none⟩ ∧ ∀ (i : Nat) (x : α), l[i]? = some x → ∃ vs, R x vs ∧ vs.length = k ∧ Seg h b (o + i * k) vs := by
  obtain ⟨ao', cap', e, hc, r⟩ := H
  cases e
  rcases r with rfl | ⟨b, o, rfl, r⟩
  · simp at hl
  · exact ⟨b, o, rfl, r⟩
theorem choicesL_le (fits : ByteArray → ByteArray → Bool) {t : Look} (a : Atom) (hf : t.atoms.length < 1000000 ∧ t.places.length < 1000000) : (choicesL fits t a).length ≤ 1000000 := by
  unfold choicesL; split
  · have := foldP_le fits t a t.places []; simp at this; omega
  · have := foldA_le fits a t.atoms []; simp at this; omega
def extV (bA bFi bB bF bE : Nat) : Value := .func (.func 38) #[] #[.pointer (some ⟨bA, 0, none⟩), .pointer (some ⟨bFi, 0, none⟩), .pointer (some ⟨bB, 0, none⟩), .pointer (some ⟨bF, 0, none⟩), .pointer (some ⟨bE, 0, none⟩)]
/-- what the search holds -/
structure Hold (h : Ghost) (ts : List ByteArray) (t : Look) (bT bF bB bm bA bFi bE : Nat) : Prop where
  caps : Caps h ts bT bF bB bm
  targ : ∃ us : List Value, Seg h bA 0 us ∧ us.length = 3 ∧ Target h (.agg us.toArray) t
  fits : Seg h bFi 0 [fitsV bF bB]
  ext : Seg h bE 0 [extV bA bFi bB bF bE]
  few : t.atoms.length < 1000000 ∧ t.places.length < 1000000
theorem Hold.mono {h h' : Ghost} {ts : List ByteArray} {t : Look} {bT bF bB bm bA bFi bE : Nat} (c : Hold h ts t bT bF bB bm bA bFi bE) (hl : h.le h') : Hold h' ts t bT bF bB bm bA bFi bE :=
  ⟨c.caps.mono hl, let ⟨us, h1, h2, h3⟩ := c.targ; ⟨us, h1.mono hl, h2, h3.mono hl⟩, c.fits.mono hl, c.ext.mono hl, c.few⟩
theorem extend_spec (ts : List ByteArray) (t : Look) (bT bF bB bm bA bFi bE : Nat) : ∀ (n : Nat) (rest : List Atom) (v : Value) (h : Ghost) (_c : Hold h ts t bT bF bB bm bA bFi bE) (F : Frag) (f : ByteArray → Option ByteArray),
    rest.length = n → n < 1000000 → Atoms h v rest → Mp F bm Value.string Value.string f → (∀ a ∈ rest, a.kind = 2 ∨ a.y = emp) → Hid ts f →
    Sx.Spec Tryz.prog 38 [v, .pointer (some ⟨bA, 0, none⟩), .pointer (some ⟨bFi, 0, none⟩), .pointer (some ⟨bB, 0, none⟩), .pointer (some ⟨bF, 0, none⟩), .pointer (some ⟨bE, 0, none⟩)] h [F]
      fun u _h' F' => ∃ F1 f' r, F' = [F1] ∧ Mp F1 bm Value.string Value.string f' ∧ u = .bool r ∧ (r = true ↔ Solvable ts t f rest) ∧ (r = false → f' = f) := by
  intro n
  induction n using Nat.strongRecOn with
  | _ n ih =>
    intro rest v h c F f hlen hsmall hv hF hok hσ
    obtain ⟨ao, cap, rfl, hcap⟩ := hv.shape
    obtain ⟨us, hus, hus3, hT⟩ := c.targ
    refine Spec.enter cl38 Tryz.func38 rfl Tryz.ntmps38 rfl fun E R => ?_
    refine Wc.seq ?_
    refine Wc.region ?_
    refine Wl.assign rfl rfl ?_
    refine Wl.nil ?_
    refine Wx.then_code ?_
    refine Wc.seq ?_
    refine Wc.seq ?_
    refine Wc.region ?_
    refine Wl.move rfl rfl ?_
    refine Wl.slLen Tryz.underlying22 rfl rfl ?_
    refine Wl.iEql rfl rfl rfl ?_
    refine Wl.nil ?_
    refine Wx.then_code ?_
    refine Wc.condS rfl (fun hc1 => ?_) (fun hc1 => ?_)
    refine Wc.seq ?_
    refine Wc.region ?_
    refine Wl.assign rfl rfl ?_
    refine Wl.nil ?_
    refine Wx.then_code ?_
    refine Wc.ret ?_
    refine Wx.then_ret ?_
    · refine Fin.keep (F' := [F]) [] .ret (.inl rfl) (run_tmp rfl rfl) (Ghost.le.refl _) fun _ _ => ⟨F, f, true, rfl, hF, rfl, ?_, fun e => by cases e⟩
      have h0 : rest = [] := by
        have : (rest.length : Int) = 0 := by simpa using hc1
        exact List.eq_nil_of_length_eq_zero (by omega)
      subst h0
      exact ⟨fun _ => solvable_nil hσ, fun _ => rfl⟩
    refine Wc.skip ?_
    refine Wx.then_code ?_
    refine Wc.seq ?_
    have hpos : 0 < rest.length := by
      have : ¬ (rest.length : Int) = 0 := by simpa using hc1
      omega
    obtain ⟨b0, o0, hao, hel⟩ := hv.at hpos
    subst hao
    have hcell : ∀ i a, rest[i]? = some a → Seg h b0 (o0 + i * 6) a.enc := fun i a ha => by
      obtain ⟨vs, rfl, _, hs⟩ := hel i a ha; exact hs
    have hx0 := List.getElem?_eq_getElem hpos
    apply Wc.draw (m := 5) (D := [[], [], [1], [2], []]) (Ys := [.det (.agg us.toArray), .det _, .det (.pointer (some ⟨b0, o0 + 0 * 6, none⟩)), .det (.agg rest[0].enc.toArray), .det (fitsV bF bB)])
    · exact follows
    · kernel_rfl
    · rfl
    · rfl
    · rfl
    · skip
      apply Locs.mk
      · intro env K' h' S' hs hd hl hY
        refine Wl.loadGA ty67 (hs _ _ rfl) (hus.mono hl) hus3 rfl ?_
        refine Wl.nil ?_
        exact Wx.gives0 _ (Ghost.le.refl _) ⟨rfl, rfl⟩ (Sub.refl _)
      apply Locs.mk
      · intro env K' h' S' hs hd hl hY
        refine Wl.move (hs _ _ rfl) rfl ?_
        refine Wl.nil ?_
        exact Wx.gives0 _ (Ghost.le.refl _) ⟨rfl, rfl⟩ (Sub.refl _)
      apply Locs.mk
      · intro env K' h' S' hs hd hl hY
        refine Wl.elem (j := 0) sl22 (detL (hd 1 (by decide)) (hY 1 (by decide))) rfl rfl hpos rfl ?_
        refine Wl.nil ?_
        exact Wx.gives0 _ (Ghost.le.refl _) ⟨rfl, rfl⟩ (Sub.refl _)
      apply Locs.mk
      · intro env K' h' S' hs hd hl hY
        refine Wl.loadGA ty37 (detL (hd 2 (by decide)) (hY 2 (by decide))) ((hcell 0 _ hx0).mono hl) rfl rfl ?_
        refine Wl.nil ?_
        exact Wx.gives0 _ (Ghost.le.refl _) ⟨rfl, rfl⟩ (Sub.refl _)
      apply Locs.mk
      · intro env K' h' S' hs hd hl hY
        refine Wl.loadG1 ty70 (hs _ _ rfl) (c.fits.mono hl) rfl ?_
        refine Wl.nil ?_
        exact Wx.gives0 _ (Ghost.le.refl _) ⟨rfl, rfl⟩ (Sub.refl _)
      trivial
    · exact ⟨trivial, trivial, trivial, trivial, trivial, trivial⟩
    intro h' hl'
    show Wl _ _ _ [_, _, _] _ ((30, _) :: (29, _) :: (28, _) :: (27, _) :: (26, _) :: _) _ _ _
    refine Wl.weak hl' ?_
    refine Wl.callA [] _ rfl rfl rfl rfl (choices_spec _ t rest[0] h ts bT bF bB bm c.caps F f hF hT c.few) rfl fun best g1 F' hg1 ⟨hF', hbest⟩ => ?_
    subst hF'
    refine Wl.assign rfl rfl ?_
    refine Wl.assign rfl rfl ?_
    refine Wl.nil ?_
    refine Wx.then_code ?_
    refine Wc.seq ?_
    refine Wc.seq ?_
    refine Wc.region ?_
    refine Wl.assign rfl rfl ?_
    refine Wl.nil ?_
    refine Wx.then_code ?_
    refine Wc.block ?_
    refine Wc.loop (ι := (Nat × Nat) × Value × Ghost) (fun x => 1 ≤ x.1.1 ∧ x.1.1 ≤ rest.length ∧ h.le x.2.2 ∧ ∃ a, rest[x.1.2]? = some a ∧ Pairs x.2.2 x.2.1 (choicesL (fitsB ts f) t a))
      (fun x => [(0, .slice (some ⟨b0, o0, none⟩) rest.length cap), (1, .pointer (some ⟨bA, 0, none⟩)), (2, .pointer (some ⟨bFi, 0, none⟩)), (3, .pointer (some ⟨bB, 0, none⟩)), (4, .pointer (some ⟨bF, 0, none⟩)), (5, .pointer (some ⟨bE, 0, none⟩)), (8, .int .i64 x.1.2), (9, x.2.1), (10, .int .i64 x.1.1)])
      (fun x => x.2.2) (fun _ => _) (fun x => rest.length - x.1.1) ((1, 0), best, g1)
      ⟨Nat.le_refl _, hpos, hg1, _, hx0, hbest⟩ (.cons rfl (.cons rfl (.cons rfl (.cons rfl (.cons rfl (.cons rfl (.cons rfl (.cons rfl (.cons rfl (.nil _)))))))))) rfl rfl fun ⟨⟨i, at'⟩, best, g⟩ ⟨hi1, hi, hg, a, ha, hbest⟩ => ?_
    dsimp only at hi1 hi hg ha hbest
    have hlc := choicesL_le (fitsB ts f) a c.few
    obtain ⟨bo, bc, rfl, hbc⟩ := Sl.shape hbest
    refine Wc.seq ?_
    refine Wc.seq ?_
    refine Wc.region ?_
    refine Wl.move rfl rfl ?_
    refine Wl.move rfl rfl ?_
    refine Wl.slLen Tryz.underlying22 rfl rfl ?_
    refine Wl.iLss rfl rfl rfl ?_
    refine Wl.move rfl rfl ?_
    apply Wl.andB (l1 := [_, _, _, _]) (i := 36) (d := 40)
    · rfl
    · intro hg2
      refine Wl.guardYes rfl rfl ?_
      refine Wl.move rfl rfl ?_
      refine Wl.guardYes rfl rfl ?_
      refine Wl.slLen Tryz.underlying75 rfl rfl ?_
      refine Wl.guardYes rfl rfl ?_
      refine Wl.iGtr rfl rfl rfl ?_
      refine Wl.pickT rfl rfl rfl ?_
      refine Wl.nil ?_
      exact Wx.reach (.cons rfl (.skip rfl (.skip rfl (.skip rfl (.skip rfl (.same rfl (by rw [hg2]) (.refl _)))))))
    · intro hg2
      refine Wl.guardNo rfl rfl rfl rfl ?_
      refine Wl.guardNo rfl rfl rfl rfl ?_
      refine Wl.guardNo rfl rfl rfl rfl ?_
      refine Wl.pickF rfl rfl rfl ?_
      refine Wl.nil ?_
      exact Wx.reach (.cons rfl (.skip rfl (.skip rfl (.skip rfl (.skip rfl (.same rfl (by rw [hg2]) (.refl _)))))))
    refine Wl.nil ?_
    refine Wx.then_code ?_
    refine Wc.condS rfl (fun hc3 => ?_) (fun hc3 => ?_)
    refine Wc.skip ?_
    refine Wx.then_code ?_
    refine Wc.seq ?_
    refine Wc.block ?_
    refine Wc.seq ?_
    have hlt : i < rest.length := by
      simp only [Bool.and_eq_true] at hc3
      have : (i : Int) < rest.length := of_decide_eq_true hc3.1
      omega
    have hxi := List.getElem?_eq_getElem hlt
    apply Wc.draw (m := 6) (D := [[], [], [], [1, 2], [3], []]) (Ys := [.det (.agg us.toArray), .det _, .det _, .det (.pointer (some ⟨b0, o0 + i * 6, none⟩)), .det (.agg rest[i].enc.toArray), .det (fitsV bF bB)])
    · exact follows
    · kernel_rfl
    · rfl
    · rfl
    · rfl
    · skip
      apply Locs.mk
      · intro env K' h' S' hs hd hl hY
        refine Wl.loadGA ty67 (hs _ _ rfl) ((hus.mono hg).mono hl) hus3 rfl ?_
        refine Wl.nil ?_
        exact Wx.gives0 _ (Ghost.le.refl _) ⟨rfl, rfl⟩ (Sub.refl _)
      apply Locs.mk
      · intro env K' h' S' hs hd hl hY
        refine Wl.move (hs _ _ rfl) rfl ?_
        refine Wl.nil ?_
        exact Wx.gives0 _ (Ghost.le.refl _) ⟨rfl, rfl⟩ (Sub.refl _)
      apply Locs.mk
      · intro env K' h' S' hs hd hl hY
        refine Wl.move (hs _ _ rfl) rfl ?_
        refine Wl.nil ?_
        exact Wx.gives0 _ (Ghost.le.refl _) ⟨rfl, rfl⟩ (Sub.refl _)
      apply Locs.mk
      · intro env K' h' S' hs hd hl hY
        refine Wl.elem (j := i) sl22 (detL (hd 1 (by decide)) (hY 1 (by decide))) (detL (hd 2 (by decide)) (hY 2 (by decide))) rfl hlt rfl ?_
        refine Wl.nil ?_
        exact Wx.gives0 _ (Ghost.le.refl _) ⟨rfl, rfl⟩ (Sub.refl _)
      apply Locs.mk
      · intro env K' h' S' hs hd hl hY
        refine Wl.loadGA ty37 (detL (hd 3 (by decide)) (hY 3 (by decide))) (((hcell i _ hxi).mono hg).mono hl) rfl rfl ?_
        refine Wl.nil ?_
        exact Wx.gives0 _ (Ghost.le.refl _) ⟨rfl, rfl⟩ (Sub.refl _)
      apply Locs.mk
      · intro env K' h' S' hs hd hl hY
        refine Wl.loadG1 ty70 (hs _ _ rfl) ((c.fits.mono hg).mono hl) rfl ?_
        refine Wl.nil ?_
        exact Wx.gives0 _ (Ghost.le.refl _) ⟨rfl, rfl⟩ (Sub.refl _)
      trivial
    · exact ⟨trivial, trivial, trivial, trivial, trivial, trivial, trivial⟩
    intro h' hl'
    show Wl _ _ _ [_, _] _ ((48, _) :: (47, _) :: (46, _) :: (45, _) :: (44, _) :: (43, _) :: _) _ _ _
    refine Wl.weak hl' ?_
    refine Wl.callA [] _ rfl rfl rfl rfl (choices_spec _ t rest[i] g ts bT bF bB bm (c.caps.mono hg) F f hF (hT.mono hg) c.few) rfl fun l2 g2 F' hg2 ⟨hF', hl2⟩ => ?_
    subst hF'
    obtain ⟨lo, lc, rfl, hlc2⟩ := Sl.shape hl2
    refine Wl.assign rfl rfl ?_
    refine Wl.nil ?_
    refine Wx.then_code ?_
    refine Wc.seq ?_
    refine Wc.region ?_
    refine Wl.move rfl rfl ?_
    refine Wl.slLen Tryz.underlying75 rfl rfl ?_
    refine Wl.move rfl rfl ?_
    refine Wl.slLen Tryz.underlying75 rfl rfl ?_
    refine Wl.iLss rfl rfl rfl ?_
    refine Wl.nil ?_
    refine Wx.then_code ?_
    refine Wc.condS rfl (fun hc4 => ?_) (fun hc4 => ?_)
    refine Wc.region ?_
    refine Wl.move rfl rfl ?_
    refine Wl.move rfl rfl ?_
    refine Wl.assign rfl rfl ?_
    refine Wl.assign rfl rfl ?_
    refine Wl.nil ?_
    refine Wx.block_normal ?_
    refine Wx.then_code ?_
    refine Wc.region ?_
    refine Wl.move rfl rfl ?_
    refine Wl.inc rfl rfl (by first | assumption | omega | (have hx := of_decide_eq_true hc4; omega) | (have hx := of_decide_eq_true hc3; omega) | (have hx := of_decide_eq_true hc1; omega)) ?_
    refine Wl.assign rfl rfl ?_
    refine Wl.nil ?_
    · refine Wx.again ((i + 1, i), _, g2) ⟨Nat.le_add_left 1 i, hlt, hg.trans hg2, _, hxi, hl2⟩ (show rest.length - (i + 1) < rest.length - i by omega) (.cons rfl (.cons rfl (.cons rfl (.cons rfl (.cons rfl (.cons rfl (.cons rfl (.cons rfl (.cons rfl (.nil _)))))))))) rfl .refl
    refine Wc.skip ?_
    refine Wx.block_normal ?_
    refine Wx.then_code ?_
    refine Wc.region ?_
    refine Wl.move rfl rfl ?_
    refine Wl.inc rfl rfl (by first | assumption | omega | (have hx := of_decide_eq_true hc4; omega) | (have hx := of_decide_eq_true hc3; omega) | (have hx := of_decide_eq_true hc1; omega)) ?_
    refine Wl.assign rfl rfl ?_
    refine Wl.nil ?_
    · refine Wx.again ((i + 1, at'), _, g2) ⟨Nat.le_add_left 1 i, hlt, hg.trans hg2, a, ha, Pairs.mono hbest hg2⟩ (show rest.length - (i + 1) < rest.length - i by omega) (.cons rfl (.cons rfl (.cons rfl (.cons rfl (.cons rfl (.cons rfl (.cons rfl (.cons rfl (.cons rfl (.nil _)))))))))) rfl .refl
    refine Wc.exit ?_
    refine Wx.then_exit ?_
    refine Wx.then_exit ?_
    refine Wx.block_exit ?_
    refine Wx.then_code ?_
    refine Wc.seq ?_
    refine Wc.region ?_
    refine Wl.move rfl rfl ?_
    refine Wl.move rfl rfl ?_
    have hat : at' < rest.length := (List.getElem?_eq_some_iff.1 ha).1
    have hae : rest[at'] = a := (List.getElem?_eq_some_iff.1 ha).2
    refine Wl.elem (j := at') sl22 rfl rfl rfl hat rfl ?_
    refine Wl.loadGA ty37 rfl ((hcell at' _ ha).mono hg) rfl rfl ?_
    refine Wl.alloc ty37 rfl rfl (fun b1 => ?_)
    refine Wl.storeA ty37 rfl rfl (by rfl) (by repeat (first | exact .here | apply Upd.there)) (by rfl) (by rfl) (by rfl) ?_
    refine Wl.nil ?_
    refine Wx.then_code ?_
    refine Wc.seq ?_
    refine Wc.region ?_
    refine Wl.move rfl rfl ?_
    refine Wl.call (F := []) (G := _) rfl rfl rfl rfl (CloneAtom_spec _ (rest.map Atom.enc) g (fitsAtoms rest) (Sl.map (hv.mono hg)) (by rw [List.length_map]; omega)) (.refl _) fun cl g3 F' hg3 ⟨e3, FC, hF', hrow⟩ => ?_
    subst e3 hF'
    refine Wl.move rfl rfl ?_
    refine Wl.move rfl rfl ?_
    refine Wl.inc (i := at') rfl rfl (by omega) ?_
    refine Wl.call (F := [FC]) (G := _) rfl rfl rfl rfl (DeleteAtom_spec _ FC (rest.map Atom.enc) g3 at' (fitsAtoms rest) hrow (by rw [List.length_map]; exact hat) (by rw [List.length_map]; omega)) (.refl _) fun ov g4 F' hg4 ⟨FD, hF', hrow2⟩ => ?_
    subst hF'
    refine Wl.freeze fun hFD => ?_
    have hothers : Atoms (g4.ext FD) ov (rest.eraseIdx at') := by
      refine Sl.unmap ?_
      rw [map_eraseIdx]
      refine Row.raw ((fitsAtoms rest).erase at').1 hrow2 ?_ hFD
      rw [List.length_eraseIdx_of_lt (by rw [List.length_map]; exact hat), List.length_map]
    have hgo : h.le (g4.ext FD) := (hg.trans hg4).trans (Ghost.le_ext _ _)
    have hgo2 : g3.le (g4.ext FD) := hg4.trans (Ghost.le_ext _ _)
    generalize g4.ext FD = g5 at hothers hgo hgo2
    have hoklen : (rest.eraseIdx at').length < n := by rw [List.length_eraseIdx_of_lt hat]; omega
    have hoka : a.kind = 2 ∨ a.y = emp := hok a (List.mem_of_getElem? ha)
    have hoko : ∀ a ∈ rest.eraseIdx at', a.kind = 2 ∨ a.y = emp := fun a ha => hok a (List.mem_of_mem_eraseIdx ha)
    have hbest5 := Pairs.mono hbest hgo2
    have hc5' := c.mono hgo
    refine Wl.assign rfl rfl ?_
    refine Wl.nil ?_
    refine Wx.then_code ?_
    refine Wc.seq ?_
    refine Wc.seq ?_
    refine Wc.region ?_
    refine Wl.move rfl rfl ?_
    refine Wl.slLen Tryz.underlying75 rfl rfl ?_
    refine Wl.move rfl rfl ?_
    refine Wl.nil ?_
    refine Wx.then_code ?_
    refine Wc.block ?_
    refine Wc.loop (ι := Nat × Ghost × Frag) (fun x => x.1 ≤ (choicesL (fitsB ts f) t a).length ∧ g5.le x.2.1 ∧ Mp x.2.2 bm Value.string Value.string f ∧ ∀ p ∈ (choicesL (fitsB ts f) t a).take x.1, ¬ Solvable ts t (stW ts f a p 2).1 (rest.eraseIdx at'))
      (fun x => [(3, .pointer (some ⟨bB, 0, none⟩)), (4, .pointer (some ⟨bF, 0, none⟩)), (5, .pointer (some ⟨bE, 0, none⟩)), (12, .pointer (some ⟨b1, 0, none⟩)), (13, ov), (67, .slice bo (choicesL (fitsB ts f) t a).length bc), (68, .int .i64 (choicesL (fitsB ts f) t a).length), (69, .int .i64 x.1)])
      (fun x => x.2.1) (fun x => [(b1, cells a.enc 37)] :: x.2.2 :: R) (fun x => (choicesL (fitsB ts f) t a).length - x.1) (0, g5, F)
      ⟨Nat.zero_le _, Ghost.le.refl _, hF, by simp⟩ (.cons rfl (.cons rfl (.cons rfl (.cons rfl (.cons rfl (.cons rfl (.cons rfl (.cons rfl (.nil _))))))))) rfl rfl fun ⟨i, g6, F6⟩ ⟨hi, hg6, hF6, hno⟩ => ?_
    dsimp only at hi hg6 hF6 hno
    refine Wc.seq ?_
    refine Wc.region ?_
    refine Wl.iLss rfl rfl rfl ?_
    refine Wl.nil ?_
    refine Wx.then_code ?_
    refine Wc.seq ?_
    refine Wc.condS rfl (fun hc5 => ?_) (fun hc5 => ?_)
    refine Wc.skip ?_
    refine Wx.then_code ?_
    refine Wc.seq ?_
    refine Wc.block ?_
    refine Wc.seq ?_
    refine Wc.region ?_
    have hlt5 : i < (choicesL (fitsB ts f) t a).length := by have := of_decide_eq_true hc5; dsimp only at this; omega
    have hxp := List.getElem?_eq_getElem hlt5
    generalize hpp : (choicesL (fitsB ts f) t a)[i] = p at hxp
    refine Wl.elemF sl75 rfl (Pairs.mono hbest5 hg6) rfl rfl hxp rfl fun b o hseg => ?_
    refine Wl.loadGA ty78 rfl hseg rfl rfl ?_
    refine Wl.alloc ty78 rfl rfl (fun b2 => ?_)
    refine Wl.storeA ty78 rfl rfl (by rfl) (by repeat (first | exact .here | apply Upd.there)) (by rfl) (by rfl) (by rfl) ?_
    refine Wl.nil ?_
    refine Wx.then_code ?_
    refine Wc.seq ?_
    refine Wc.region ?_
    refine Wl.assign rfl rfl ?_
    refine Wl.nil ?_
    refine Wx.then_code ?_
    refine Wc.seq ?_
    refine Wc.seq ?_
    refine Wc.region ?_
    refine Wl.field fd37_2 rfl rfl ?_
    refine Wl.loadO ty9 rfl (by repeat (first | exact .here | apply Has.there)) rfl rfl ?_
    refine Wl.field fd37_3 rfl rfl ?_
    refine Wl.loadO ty9 rfl (by repeat (first | exact .here | apply Has.there)) rfl rfl ?_
    refine Wl.build bd78 rfl (by repeat (first | rfl | exact .nil | exact .here | apply SetL.there | apply SetLs.cons | apply FillR.cons)) rfl ?_
    refine Wl.move rfl rfl ?_
    refine Wl.nil ?_
    refine Wx.then_code ?_
    refine Wc.block ?_
    refine Wc.addNil ?_
    refine Wc.loop (ι := Nat × (Value × Frag) × Frag) (fun x => x.1 ≤ 2 ∧ Row x.2.1.2 x.2.1.1 9 1 (stW ts f a p x.1).2.length ((stW ts f a p x.1).2.flatMap strE) ∧ Mp x.2.2 bm Value.string Value.string (stW ts f a p x.1).1)
      (fun x => [(3, .pointer (some ⟨bB, 0, none⟩)), (4, .pointer (some ⟨bF, 0, none⟩)), (5, .pointer (some ⟨bE, 0, none⟩)), (12, .pointer (some ⟨b1, 0, none⟩)), (13, ov), (15, .pointer (some ⟨b2, 0, none⟩)), (16, x.2.1.1), (67, .slice bo (choicesL (fitsB ts f) t a).length bc), (68, .int .i64 (choicesL (fitsB ts f) t a).length), (69, .int .i64 i), (77, .agg #[.string a.x, .string a.y]), (78, .int .i64 x.1)])
      (fun _ => g6) (fun x => x.2.1.2 :: [(b2, cells p.enc 78)] :: [(b1, cells a.enc 37)] :: x.2.2 :: R) (fun x => 2 - x.1) (0, (.slice none 0 0, []), F6)
      ⟨Nat.zero_le _, Row.nil _ _, hF6⟩ (.cons rfl (.cons rfl (.cons rfl (.cons rfl (.cons rfl (.cons rfl (.cons rfl (.cons rfl (.cons rfl (.cons rfl (.cons rfl (.cons rfl (.nil _))))))))))))) rfl rfl fun ⟨j, ⟨vW, W⟩, FM⟩ ⟨hj, hW, hM⟩ => ?_
    dsimp only at hj hW hM
    obtain ⟨wo, wc, rfl⟩ := Row.shape hW
    have hwl := stW_le (ts := ts) (f := f) a p j
    refine Wc.seq ?_
    refine Wc.region ?_
    refine Wl.iLss rfl rfl rfl ?_
    refine Wl.nil ?_
    refine Wx.then_code ?_
    refine Wc.seq ?_
    refine Wc.condS rfl (fun hc6 => ?_) (fun hc6 => ?_)
    refine Wc.skip ?_
    refine Wx.then_code ?_
    refine Wc.seq ?_
    refine Wc.block ?_
    refine Wc.seq ?_
    refine Wc.region ?_
    refine Wl.move rfl rfl ?_
    have hlt6 : j < 2 := by have := of_decide_eq_true hc6; dsimp only at this; omega
    have hks : ∃ s u, [(a.x, p.a), (a.y, p.b)][j]? = some (s, u) ∧ [Value.string a.x, .string a.y][j]? = some (.string s) ∧ p.enc[j]? = some (.string u) := by
      rcases (show j = 0 ∨ j = 1 by omega) with rfl | rfl
      · exact ⟨_, _, rfl, rfl, rfl⟩
      · exact ⟨_, _, rfl, rfl, rfl⟩
    obtain ⟨s, u, hkv, hks, hus2⟩ := hks
    have hstep := stW_succ (ts := ts) (f := f) hkv
    refine Wl.index1 ar78 rfl rfl rfl hlt6 hks rfl ?_
    refine Wl.assign rfl rfl ?_
    refine Wl.assign rfl rfl ?_
    refine Wl.nil ?_
    refine Wx.then_code ?_
    refine Wc.seq ?_
    refine Wc.region ?_
    refine Wl.loadG1 ty69 rfl (hc5'.mono hg6).caps.bound rfl ?_
    refine Wl.move rfl rfl ?_
    refine Wl.lookupOk [_, _, _] _ s Tryz.underlying69 kstr ty9.zero rfl rfl rfl hM rfl ?_
    rw [show (((stW ts f a p j).1 s).map Value.string).getD (.string ⟨#[]⟩) = .string (((stW ts f a p j).1 s).getD ⟨#[]⟩) by cases (stW ts f a p j).1 s <;> rfl]
    refine Wl.move rfl rfl ?_
    refine Wl.extract rfl rfl rfl ?_
    refine Wl.extract rfl rfl rfl ?_
    refine Wl.assign rfl rfl ?_
    refine Wl.assign rfl rfl ?_
    refine Wl.nil ?_
    refine Wx.then_code ?_
    refine Wc.seq ?_
    refine Wc.region ?_
    refine Wl.move rfl rfl ?_
    refine Wl.not rfl rfl ?_
    refine Wl.move rfl rfl ?_
    apply Wl.andB (l1 := [_, _, _, _]) (i := 90) (d := 94)
    · rfl
    · intro hg7
      refine Wl.guardYes rfl rfl ?_
      refine Wl.loadG1 ty72 rfl (hc5'.mono hg6).caps.free rfl ?_
      refine Wl.guardYes rfl rfl ?_
      refine Wl.move rfl rfl ?_
      refine Wl.guardYes rfl rfl ?_
      obtain ⟨tv, hbT, htT⟩ := (hc5'.mono hg6).caps.told
      refine Wl.callV rfl rfl rfl (free_spec s g6 tv ts bT hbT htT c.caps.few) ?_
      refine Wl.pickT rfl rfl rfl ?_
      refine Wl.nil ?_
      exact Wx.reach (.cons rfl (.skip rfl (.skip rfl (.skip rfl (.skip rfl (.same rfl (by rw [hg7]) (.refl _)))))))
    · intro hg7
      refine Wl.guardNo rfl rfl rfl rfl ?_
      refine Wl.guardNo rfl rfl rfl rfl ?_
      refine Wl.guardNo rfl rfl rfl rfl ?_
      refine Wl.pickF rfl rfl rfl ?_
      refine Wl.nil ?_
      exact Wx.reach (.cons rfl (.skip rfl (.skip rfl (.skip rfl (.skip rfl (.same rfl (by rw [hg7]) (.refl _)))))))
    refine Wl.nil ?_
    refine Wx.then_code ?_
    refine Wc.condS rfl (fun hc8 => ?_) (fun hc8 => ?_)
    refine Wc.seq ?_
    · have hc8' : ((!((stW ts f a p j).1 s).isSome) && hiddenB ts s) = true := hc8
      apply Wc.draw (m := 5) (D := [[], [], [], [2], [3]]) (Ys := [.det (.map (some bm)), .det _, .det _, .det (.pointer (some ⟨b2, 0 + j * 1, none⟩)), .det (.string u)])
      · exact follows
      · kernel_rfl
      · rfl
      · rfl
      · rfl
      · skip
        apply Locs.mk
        · intro env K' h' S' hs hd hl hY
          refine Wl.loadG1 ty69 (hs _ _ rfl) ((hc5'.mono hg6).caps.bound.mono hl) rfl ?_
          refine Wl.nil ?_
          exact Wx.gives0 _ (Ghost.le.refl _) ⟨rfl, rfl⟩ (Sub.refl _)
        apply Locs.mk
        · intro env K' h' S' hs hd hl hY
          refine Wl.move (hs _ _ rfl) rfl ?_
          refine Wl.nil ?_
          exact Wx.gives0 _ (Ghost.le.refl _) ⟨rfl, rfl⟩ (Sub.refl _)
        apply Locs.mk
        · intro env K' h' S' hs hd hl hY
          refine Wl.move (hs _ _ rfl) rfl ?_
          refine Wl.nil ?_
          exact Wx.gives0 _ (Ghost.le.refl _) ⟨rfl, rfl⟩ (Sub.refl _)
        apply Locs.mk
        · intro env K' h' S' hs hd hl hY
          refine Wl.elemA ar78 (hs _ _ rfl) (detL (hd 2 (by decide)) (hY 2 (by decide))) rfl (by first | assumption | omega | (have hx := of_decide_eq_true hc8; omega) | (have hx := of_decide_eq_true hc6; omega) | (have hx := of_decide_eq_true hc5; omega) | (have hx := of_decide_eq_true hc3; omega)) rfl ?_
          refine Wl.nil ?_
          exact Wx.gives0 _ (Ghost.le.refl _) ⟨rfl, rfl⟩ (Sub.refl _)
        apply Locs.mk
        · intro env K' h' S' hs hd hl hY
          refine Wl.loadO ty9 (detL (hd 3 (by decide)) (hY 3 (by decide))) (Has.right (by repeat (first | exact .here | apply Has.there))) (show p.enc[0 + j * 1]? = some (.string u) by rw [Nat.zero_add, Nat.mul_one]; exact hus2) rfl ?_
          refine Wl.nil ?_
          exact Wx.gives0 _ (Ghost.le.refl _) ⟨rfl, rfl⟩ (Sub.refl _)
        trivial
      · exact ⟨trivial, trivial, trivial, trivial, trivial, trivial⟩
      intro h' hl'
      show Wl _ _ _ [_] _ ((99, _) :: (98, _) :: (97, _) :: (96, _) :: (95, _) :: _) _ _ _
      refine Wl.weak hl' ?_
      refine Wl.mapUpdate [_, _, _] _ s u rfl Tryz.underlying69 kstr rfl rfl rfl rfl hM fun F2 hM2 => ?_
      refine Wl.nil ?_
      refine Wx.then_code ?_
      refine Wc.region ?_
      refine Wl.move rfl rfl ?_
      refine Wl.move rfl rfl ?_
      refine Wl.buildSlice sl25 rfl rfl rfl (by repeat (first | rfl | exact .nil | apply Cellss.cons)) rfl rfl rfl (fun b3 => ?_)
      refine Wl.append [_] _ (strE s) sl25 rfl rfl rfl hW rfl rfl (srcO rfl .here (fun j u hj => by rw [Nat.zero_add]; simpa [strE] using hj)) (one_strE s) (by omega) (by omega) fun v' W2 hrow => ?_
      refine Wl.assign rfl rfl ?_
      refine Wl.nil ?_
      refine Wx.block_normal ?_
      refine Wx.then_code ?_
      refine Wc.region ?_
      refine Wl.inc rfl rfl (by first | assumption | omega | (have hx := of_decide_eq_true hc8; omega) | (have hx := of_decide_eq_true hc6; omega) | (have hx := of_decide_eq_true hc5; omega) | (have hx := of_decide_eq_true hc3; omega)) ?_
      refine Wl.move rfl rfl ?_
      refine Wl.nil ?_
      refine Wx.again (j + 1, (v', W2), F2) ⟨hlt6, ?_, ?_⟩ (show 2 - (j + 1) < 2 - j by omega) (.cons rfl (.cons rfl (.cons rfl (.cons rfl (.cons rfl (.cons rfl (.cons rfl (.cons rfl (.cons rfl (.cons rfl (.cons rfl (.cons rfl (.nil _))))))))))))) rfl (.skip .refl)
      · rw [hstep, stepW, if_pos hc8']; simpa [List.flatMap_append] using hrow
      · rw [hstep, stepW, if_pos hc8']; exact hM2
    refine Wc.skip ?_
    refine Wx.block_normal ?_
    refine Wx.then_code ?_
    refine Wc.region ?_
    refine Wl.inc rfl rfl (by first | assumption | omega | (have hx := of_decide_eq_true hc8; omega) | (have hx := of_decide_eq_true hc6; omega) | (have hx := of_decide_eq_true hc5; omega) | (have hx := of_decide_eq_true hc3; omega)) ?_
    refine Wl.move rfl rfl ?_
    refine Wl.nil ?_
    · have hc8' : ¬ ((!((stW ts f a p j).1 s).isSome) && hiddenB ts s) = true := fun e => by rw [show ((!((stW ts f a p j).1 s).isSome) && hiddenB ts s) = false from hc8] at e; cases e
      refine Wx.again (j + 1, (_, W), FM) ⟨hlt6, ?_, ?_⟩ (show 2 - (j + 1) < 2 - j by omega) (.cons rfl (.cons rfl (.cons rfl (.cons rfl (.cons rfl (.cons rfl (.cons rfl (.cons rfl (.cons rfl (.cons rfl (.cons rfl (.cons rfl (.nil _))))))))))))) rfl .refl
      · rw [hstep, stepW, if_neg hc8']; exact hW
      · rw [hstep, stepW, if_neg hc8']; exact hM
    refine Wc.exit ?_
    refine Wx.then_exit ?_
    refine Wx.then_exit ?_
    refine Wx.block_exit ?_
    refine Wx.then_code ?_
    refine Wc.seq ?_
    refine Wc.seq ?_
    refine Wc.region ?_
    have hj2 : j = 2 := by have := of_decide_eq_false hc6; dsimp only at this; omega
    subst hj2
    refine Wl.loadG1 ty74 rfl (hc5'.mono hg6).ext rfl ?_
    refine Wl.move rfl rfl ?_
    have hpm : p ∈ choicesL (fitsB ts f) t a := List.mem_of_getElem? hxp
    have hsolve := solvable_step (ts := ts) (t := t) (f := f) ha hoka
    refine Wl.callA [_, _, _] _ rfl rfl rfl rfl (ih _ hoklen (rest.eraseIdx at') ov g6 (hc5'.mono hg6) FM (stW ts f a p 2).1 rfl (by omega) (Atoms.mono hothers hg6) hM hoko (hσ.two a p)) rfl fun u g7 F' hg7 ⟨F7, f7, r, hF', hM7, hu, hr, hrf⟩ => ?_
    subst hF' hu
    refine Wl.nil ?_
    refine Wx.then_code ?_
    refine Wc.condS rfl (fun hc9 => ?_) (fun hc9 => ?_)
    refine Wc.seq ?_
    refine Wc.region ?_
    refine Wl.assign rfl rfl ?_
    refine Wl.nil ?_
    refine Wx.then_code ?_
    refine Wc.ret ?_
    refine Wx.then_ret ?_
    refine Wx.block_ret ?_
    refine Wx.then_ret ?_
    refine Wx.then_ret ?_
    refine Wx.block_ret ?_
    refine Wx.then_ret ?_
    · refine Fin.keep (F' := [F7]) [W, _, _] .ret (.inl rfl) (run_tmp rfl rfl) ((hgo.trans hg6).trans hg7) fun _ _ => ⟨F7, f7, true, rfl, hM7, rfl, ⟨fun _ => hsolve.2 ⟨p, hpm, hr.1 hc9⟩, fun _ => rfl⟩, fun e => by cases e⟩
    refine Wc.skip ?_
    refine Wx.then_code ?_
    refine Wc.seq ?_
    refine Wc.region ?_
    refine Wl.move rfl rfl ?_
    refine Wl.slLen Tryz.underlying25 rfl rfl ?_
    refine Wl.move rfl rfl ?_
    refine Wl.nil ?_
    refine Wx.then_code ?_
    refine Wc.block ?_
    refine Wc.freeze fun hWf => ?_
    have hf7 := hrf hc9
    subst hf7
    have hns : ¬ Solvable ts t (stW ts f a p 2).1 (rest.eraseIdx at') := fun h => by rw [hr.2 h] at hc9; cases hc9
    have hWs : Strs (g7.ext W) _ (stW ts f a p 2).2 := Row.sl (enc := strE) (fun _ => rfl) hW rfl hWf
    have hg8 : g6.le (g7.ext W) := hg7.trans (Ghost.le_ext _ _)
    generalize g7.ext W = g8 at hWs hg8
    have hwl2 := stW_le (ts := ts) (f := f) a p 2
    refine Wc.loop (ι := Nat × Frag) (fun x => x.1 ≤ (stW ts f a p 2).2.length ∧ Mp x.2 bm Value.string Value.string (delAll (stW ts f a p 2).1 ((stW ts f a p 2).2.take x.1)))
      (fun x => [(3, .pointer (some ⟨bB, 0, none⟩)), (4, .pointer (some ⟨bF, 0, none⟩)), (5, .pointer (some ⟨bE, 0, none⟩)), (12, .pointer (some ⟨b1, 0, none⟩)), (13, ov), (67, .slice bo (choicesL (fitsB ts f) t a).length bc), (68, .int .i64 (choicesL (fitsB ts f) t a).length), (69, .int .i64 i), (108, .slice wo (stW ts f a p 2).2.length wc), (109, .int .i64 (stW ts f a p 2).2.length), (110, .int .i64 x.1)])
      (fun _ => g8) (fun x => [(b2, cells p.enc 78)] :: [(b1, cells a.enc 37)] :: x.2 :: R) (fun x => (stW ts f a p 2).2.length - x.1) (0, F7)
      ⟨Nat.zero_le _, hM7⟩ (.cons rfl (.cons rfl (.cons rfl (.cons rfl (.cons rfl (.cons rfl (.cons rfl (.cons rfl (.cons rfl (.cons rfl (.cons rfl (.nil _)))))))))))) rfl rfl fun ⟨j, F9⟩ ⟨hj9, hM9⟩ => ?_
    dsimp only at hj9 hM9
    refine Wc.seq ?_
    refine Wc.region ?_
    refine Wl.iLss rfl rfl rfl ?_
    refine Wl.nil ?_
    refine Wx.then_code ?_
    refine Wc.seq ?_
    refine Wc.condS rfl (fun hc10 => ?_) (fun hc10 => ?_)
    refine Wc.skip ?_
    refine Wx.then_code ?_
    refine Wc.seq ?_
    refine Wc.block ?_
    refine Wc.seq ?_
    refine Wc.region ?_
    have hlt9 : j < (stW ts f a p 2).2.length := by have := of_decide_eq_true hc10; dsimp only at this; omega
    have hx9 := List.getElem?_eq_getElem hlt9
    generalize hs9 : (stW ts f a p 2).2[j] = s at hx9
    refine Wl.elemF sl25 rfl hWs rfl rfl hx9 rfl fun b o hseg => ?_
    refine Wl.loadG1 ty9 rfl hseg rfl ?_
    refine Wl.assign rfl rfl ?_
    refine Wl.nil ?_
    refine Wx.then_code ?_
    refine Wc.region ?_
    refine Wl.loadG1 ty69 rfl ((hc5'.mono hg6).caps.bound.mono hg8) rfl ?_
    refine Wl.move rfl rfl ?_
    refine Wl.delete [_, _] _ s rfl Tryz.underlying69 kstr rfl rfl rfl hM9 fun F10 hM10 => ?_
    refine Wl.nil ?_
    refine Wx.block_normal ?_
    refine Wx.then_code ?_
    refine Wc.region ?_
    refine Wl.inc rfl rfl (by first | assumption | omega | (have hx := of_decide_eq_true hc10; omega) | (have hx := of_decide_eq_true hc9; omega) | (have hx := of_decide_eq_true hc6; omega) | (have hx := of_decide_eq_true hc5; omega)) ?_
    refine Wl.move rfl rfl ?_
    refine Wl.nil ?_
    · refine Wx.again (j + 1, F10) ⟨hlt9, ?_⟩ (show (stW ts f a p 2).2.length - (j + 1) < (stW ts f a p 2).2.length - j by omega) (.cons rfl (.cons rfl (.cons rfl (.cons rfl (.cons rfl (.cons rfl (.cons rfl (.cons rfl (.cons rfl (.cons rfl (.cons rfl (.nil _)))))))))))) rfl .refl
      dsimp only; rw [delAll_succ hx9]; exact hM10
    refine Wc.exit ?_
    refine Wx.then_exit ?_
    refine Wx.then_exit ?_
    refine Wx.block_exit ?_
    refine Wx.block_normal ?_
    refine Wx.then_code ?_
    refine Wc.region ?_
    refine Wl.inc rfl rfl (by first | assumption | omega | (have hx := of_decide_eq_true hc10; omega) | (have hx := of_decide_eq_true hc9; omega) | (have hx := of_decide_eq_true hc6; omega) | (have hx := of_decide_eq_true hc5; omega)) ?_
    refine Wl.move rfl rfl ?_
    refine Wl.nil ?_
    · have hj' : j = (stW ts f a p 2).2.length := by have := of_decide_eq_false hc10; dsimp only at this; omega
      refine Wx.again (i + 1, g8, F9) ⟨hlt5, hg6.trans hg8, ?_, ?_⟩ (show (choicesL (fitsB ts f) t a).length - (i + 1) < (choicesL (fitsB ts f) t a).length - i by omega) (.cons rfl (.cons rfl (.cons rfl (.cons rfl (.cons rfl (.cons rfl (.cons rfl (.cons rfl (.nil _))))))))) rfl (.skip .refl)
      · rw [hj', List.take_length, delAll_two] at hM9; exact hM9
      · intro q hq
        rw [List.take_add_one, hxp] at hq
        rcases List.mem_append.1 hq with hq | hq
        · exact hno q hq
        · have : q = p := by simpa using hq
          subst this; exact hns
    refine Wc.exit ?_
    refine Wx.then_exit ?_
    refine Wx.then_exit ?_
    refine Wx.block_exit ?_
    refine Wx.then_code ?_
    refine Wc.seq ?_
    refine Wc.region ?_
    refine Wl.assign rfl rfl ?_
    refine Wl.nil ?_
    refine Wx.then_code ?_
    refine Wc.ret ?_
    refine Fin.keep (F' := [F6]) [_] .ret (.inl rfl) (run_tmp rfl rfl) (hgo.trans hg6) fun _ _ => ⟨F6, f, false, rfl, hF6, rfl, ⟨fun e => by (cases e), fun hS => ?_⟩, fun _ => rfl⟩
    have hi' : i = (choicesL (fitsB ts f) t a).length := by have := of_decide_eq_false hc5; dsimp only at this; omega
    rw [hi', List.take_length] at hno
    obtain ⟨p, hp, hps⟩ := (solvable_step (ts := ts) (t := t) (f := f) ha hoka).1 hS
    exact absurd hps (hno p hp)
end Go.Proofs.YtgpmjggdloldnaaGreatDoor

namespace Go.Proofs.YtgpmjggdloldnaaGreatDoor
open Go Go.Sx
set_option maxRecDepth 100000
/-- the atoms of b can be mapped into those of a -/
def Hom (ts : List ByteArray) (a b : List Atom) : Prop := Solvable ts (lookT a) (fun _ => none) b
open Classical in
noncomputable def homB (ts : List ByteArray) (a b : List Atom) : Bool := decide (Hom ts a b)
theorem homB_iff {ts : List ByteArray} {a b : List Atom} : homB ts a b = true ↔ Hom ts a b := by simp [homB]
theorem contained_spec (av bv tv : Value) (ts : List ByteArray) (a b : List Atom) (h : Ghost) (ha : Atoms h av a) (hb : Atoms h bv b) (ht : Strs h tv ts) (hla : a.length < 1000000) (hlb : b.length < 1000000) (hlt : ts.length ≤ 1000000)
    (hok : ∀ x ∈ b, x.kind = 2 ∨ x.y = emp) : SpecV Tryz.prog 20 [av, bv, tv] h (.bool (homB ts a b)) := by
  obtain ⟨ta, tc, rfl, htc⟩ := ht.shape
  refine SpecP.enter cl20 Tryz.func20 rfl Tryz.ntmps20 rfl fun E R => ?_
  refine Wc.seq ?_
  refine Wc.region ?_
  refine Wl.box rfl (by rfl) rfl (fun b1 => ?_)
  refine Wl.assign rfl rfl ?_
  refine Wl.nil ?_
  refine Wx.then_code ?_
  refine Wc.seq ?_
  refine Wc.region ?_
  refine Wl.move rfl rfl ?_
  refine Wl.callP rfl rfl rfl (look_spec av a h ha (by omega)) fun u h1 hl1 hT => ?_
  have hT' := hT
  obtain ⟨uA, uP, bM, rfl, hA, hP, hM⟩ := hT
  obtain ⟨aA, cA, rfl, _⟩ := hA.shape
  obtain ⟨aP, cP, rfl, _⟩ := hP.shape
  have hle := lookT_le a
  refine Wl.alloc ty67 rfl rfl (fun b2 => ?_)
  refine Wl.storeA ty67 rfl rfl (by rfl) (by repeat (first | exact .here | apply Upd.there)) (by rfl) (by rfl) (by rfl) ?_
  refine Wl.nil ?_
  refine Wx.then_code ?_
  refine Wc.seq ?_
  refine Wc.region ?_
  refine Wl.makeMap rfl (fun b3 => ?_)
  refine Wl.alloc ty69 rfl rfl (fun b4 => ?_)
  refine Wl.storeF ty69 rfl rfl rfl (by repeat (first | exact .here | apply Upd.there)) (by repeat (first | exact .here | apply SetL.there)) ?_
  refine Wl.nil ?_
  refine Wx.then_code ?_
  refine Wc.seq ?_
  refine Wc.region ?_
  refine Wl.makeFunc rfl rfl rfl ?_
  refine Wl.alloc ty72 rfl rfl (fun b5 => ?_)
  refine Wl.storeF ty72 rfl rfl rfl (by repeat (first | exact .here | apply Upd.there)) (by repeat (first | exact .here | apply SetL.there)) ?_
  refine Wl.nil ?_
  refine Wx.then_code ?_
  refine Wc.seq ?_
  refine Wc.region ?_
  refine Wl.makeFunc rfl rfl rfl ?_
  refine Wl.alloc ty70 rfl rfl (fun b6 => ?_)
  refine Wl.storeF ty70 rfl rfl rfl (by repeat (first | exact .here | apply Upd.there)) (by repeat (first | exact .here | apply SetL.there)) ?_
  refine Wl.nil ?_
  refine Wx.then_code ?_
  refine Wc.seq ?_
  refine Wc.region ?_
  refine Wl.alloc ty74 rfl rfl (fun b7 => ?_)
  refine Wl.nil ?_
  refine Wx.then_code ?_
  refine Wc.seq ?_
  refine Wc.region ?_
  refine Wl.makeFunc rfl rfl rfl ?_
  refine Wl.storeF ty74 rfl rfl rfl (by repeat (first | exact .here | apply Upd.there)) (by repeat (first | exact .here | apply SetL.there)) ?_
  refine Wl.nil ?_
  refine Wx.then_code ?_
  refine Wc.seq ?_
  refine Wc.region ?_
  refine Wl.freezeBut [_, _, _, _] _ [_, _] R rfl fun h2 hl2 hF => ?_
  have hold : Hold h2 ts (lookT a) b1 b5 b4 b3 b2 b6 b7 := ⟨⟨⟨_, Seg.of_block (hF (b1, _) (.tail _ (.tail _ (.tail _ (.tail _ (.tail _ (.head _))))))), ht.mono (hl1.trans hl2)⟩, Seg.of_block (hF (b5, _) (.tail _ (.tail _ (.head _)))), Seg.of_block (hF (b4, _) (.tail _ (.tail _ (.tail _ (.head _))))), hlt⟩, ⟨_, Seg.of_block (hF (b2, _) (.tail _ (.tail _ (.tail _ (.tail _ (.head _)))))), rfl, hT'.mono hl2⟩, Seg.of_block (hF (b6, _) (.tail _ (.head _))), Seg.of_block (hF (b7, _) (.head _)), by omega⟩
  refine Wl.loadG1 ty74 rfl hold.ext rfl ?_
  refine Wl.move rfl rfl ?_
  refine Wl.callA [] _ rfl rfl rfl rfl (extend_spec ts (lookT a) b1 b5 b4 b3 b2 b6 b7 _ b _ h2 hold _ (fun _ => none) rfl hlb (hb.mono (hl1.trans hl2)) Mp.empty hok (fun _ _ e => by cases e)) rfl fun u h3 F' hl3 ⟨F3, f3, r, hF', _, hu, hr, _⟩ => ?_
  subst hF' hu
  refine Wl.assign rfl rfl ?_
  refine Wl.nil ?_
  refine Wx.then_code ?_
  refine Wc.ret ?_
  refine endV .ret (.inl rfl) rfl rfl [_] ((hl1.trans hl2).trans hl3) ?_
  rw [Value.bool.injEq, Bool.eq_iff_iff, hr, homB_iff]; rfl
end Go.Proofs.YtgpmjggdloldnaaGreatDoor

namespace Go.Proofs.YtgpmjggdloldnaaGreatDoor
open Go Go.Sx
set_option maxRecDepth 100000
def checkE (ts : List ByteArray) (a : List Atom) : Int := queryE ts [a]
theorem atomE_y {a : Atom} (h : atomE a = 0) : a.kind = 2 ∨ a.y = emp := by
  unfold atomE at h
  split at h
  · cases h
  split at h
  · cases h
  · rename_i h1
    have h1 : fieldsBad a = false := by simpa using h1
    unfold fieldsBad at h1
    rw [Bool.or_eq_false_iff] at h1
    by_cases hk : a.kind = 2
    · exact .inl hk
    · have : (a.kind == 2) = false := by simpa using hk
      have h2 := h1.1
      rw [this] at h2
      simp only [Bool.not_false, Bool.true_and, Bool.not_eq_false'] at h2
      exact .inr (beq_toList.1 h2)
theorem queryE_atoms {ts : List ByteArray} {l : List (List Atom)} (h : queryE ts l = 0) : ∀ p ∈ l, ∀ a ∈ p, atomE a = 0 := by
  intro p hp a ha
  unfold queryE at h
  split at h
  · rename_i h1; exact absurd h h1
  · cases hf : l.flatten.find? (fun a => atomE a != 0) with
    | some x => rw [hf] at h; have := List.find?_some hf; simp only at h; rw [h] at this; simp at this
    | none =>
      have := List.find?_eq_none.1 hf a (List.mem_flatten.2 ⟨p, hp, ha⟩)
      simpa using this
theorem checkE_ok {ts : List ByteArray} {a : List Atom} (h : checkE ts a = 0) : ∀ x ∈ a, x.kind = 2 ∨ x.y = emp := fun x hx => atomE_y (queryE_atoms h a (by simp) x hx)
theorem Parts.one {h : Ghost} {b : Nat} {u : Value} {a : List Atom} {T : TypeId} (hb : h b = some (cells [u] T)) (ha : Atoms h u a) : Parts h (.slice (some ⟨b, 0, none⟩) 1 1) [a] := by
  refine ⟨_, 1, rfl, Nat.le_refl _, .inr ⟨b, 0, rfl, fun i x hx => ?_⟩⟩
  match i, hx with
  | 0, hx => simp at hx; subst hx; exact ⟨[u], ⟨u, rfl, ha⟩, rfl, by simpa using Seg.of_block hb⟩
  | i + 1, hx => simp at hx
theorem check_spec (av tv : Value) (ts : List ByteArray) (a : List Atom) (h : Ghost) (ha : Atoms h av a) (ht : Strs h tv ts) (hla : a.length ≤ 1000000) (hlt : ts.length ≤ 1000000) (g : Gl h) :
    SpecV Tryz.prog 19 [.agg #[av], tv] h (.int .i64 (checkE ts a)) := by
  obtain ⟨oa, ca, rfl, hca⟩ := ha.shape
  obtain ⟨ot, ct, rfl, hct⟩ := ht.shape
  refine SpecP.enter cl19 Tryz.func19 rfl Tryz.ntmps19 rfl fun E R => ?_
  refine Wc.seq ?_
  refine Wc.region ?_
  refine Wl.box rfl (by rfl) rfl (fun b1 => ?_)
  refine Wl.assign rfl rfl ?_
  refine Wl.nil ?_
  refine Wx.then_code ?_
  refine Wc.seq ?_
  refine Wc.region ?_
  refine Wl.move rfl rfl ?_
  refine Wl.loadOA ty24 rfl (by repeat (first | exact .here | apply Has.there)) rfl rfl ?_
  refine Wl.buildSlice sl39 rfl rfl rfl (by repeat (first | rfl | exact .nil | apply Cellss.cons)) rfl rfl rfl (fun b2 => ?_)
  refine Wl.build bd41 rfl (by repeat (first | rfl | exact .nil | exact .here | apply SetL.there | apply SetLs.cons | apply FillR.cons)) rfl ?_
  refine Wl.freeze fun hF => ?_
  refine Wl.callV rfl rfl rfl (Check_spec _ _ ts [a] _ 0 (ht.mono (Ghost.le_ext _ _)) (Parts.one (hF _ (.head _)) (ha.mono (Ghost.le_ext _ _))) (by simp) hlt (by simpa using hla) (g.mono (Ghost.le_ext _ _))) ?_
  refine Wl.assign rfl rfl ?_
  refine Wl.nil ?_
  refine Wx.then_code ?_
  refine Wc.ret ?_
  exact endV .ret (.inl rfl) rfl rfl [_] (Ghost.le_ext _ _) rfl
def partE (ts : List ByteArray) (a b : List Atom) : Int := if checkE ts a ≠ 0 then checkE ts a else checkE ts b
noncomputable def partB (ts : List ByteArray) (a b : List Atom) : Bool := decide (partE ts a b = 0) && homB ts a b
theorem Part_spec (av bv tv : Value) (ts : List ByteArray) (a b : List Atom) (h : Ghost) (ha : Atoms h av a) (hb : Atoms h bv b) (ht : Strs h tv ts) (hla : a.length < 1000000) (hlb : b.length < 1000000) (hlt : ts.length ≤ 1000000) (g : Gl h) :
    SpecV Tryz.prog 8 [.agg #[av], .agg #[bv], tv] h (.tuple #[.bool (partB ts a b), .int .i64 (partE ts a b)]) := by
  obtain ⟨oa, ca, rfl, hca⟩ := ha.shape
  obtain ⟨ob, cb, rfl, hcb⟩ := hb.shape
  obtain ⟨ot, ct, rfl, hct⟩ := ht.shape
  refine SpecP.enter cl8 Tryz.func8 rfl Tryz.ntmps8 rfl fun E R => ?_
  refine Wc.seq ?_
  refine Wc.region ?_
  refine Wl.box rfl (by rfl) rfl (fun b1 => ?_)
  refine Wl.box rfl (by rfl) rfl (fun b2 => ?_)
  refine Wl.assign rfl rfl ?_
  refine Wl.assign rfl rfl ?_
  refine Wl.nil ?_
  refine Wx.then_code ?_
  refine Wc.seq ?_
  refine Wc.seq ?_
  refine Wc.region ?_
  refine Wl.loadOA ty24 rfl (by repeat (first | exact .here | apply Has.there)) rfl rfl ?_
  refine Wl.move rfl rfl ?_
  refine Wl.callV rfl rfl rfl (check_spec _ _ ts a h ha ht (by omega) hlt g) ?_
  refine Wl.assign rfl rfl ?_
  refine Wl.nil ?_
  refine Wx.then_code ?_
  refine Wc.seq ?_
  refine Wc.region ?_
  refine Wl.move rfl rfl ?_
  refine Wl.iNeq rfl rfl rfl ?_
  refine Wl.nil ?_
  refine Wx.then_code ?_
  refine Wc.condS rfl (fun hc1 => ?_) (fun hc1 => ?_)
  refine Wc.seq ?_
  refine Wc.region ?_
  refine Wl.move rfl rfl ?_
  refine Wl.assign rfl rfl ?_
  refine Wl.assign rfl rfl ?_
  refine Wl.nil ?_
  refine Wx.then_code ?_
  refine Wc.ret ?_
  refine Wx.then_ret ?_
  · refine Fin.slots (L := [_, _]) .ret (.inl rfl) (run_tmp2 rfl rfl rfl) (Ghost.le.refl _) fun _ _ => ⟨rfl, ?_⟩
    have h1 : checkE ts a ≠ 0 := by simpa using hc1
    have h2 : partE ts a b = checkE ts a := by rw [partE, if_pos h1]
    rw [partB, h2]; simp [h1]
  refine Wc.skip ?_
  refine Wx.then_code ?_
  refine Wc.seq ?_
  refine Wc.seq ?_
  refine Wc.region ?_
  refine Wl.loadOA ty24 rfl (by repeat (first | exact .here | apply Has.there)) rfl rfl ?_
  refine Wl.move rfl rfl ?_
  refine Wl.callV rfl rfl rfl (check_spec _ _ ts b h hb ht (by omega) hlt g) ?_
  refine Wl.assign rfl rfl ?_
  refine Wl.nil ?_
  refine Wx.then_code ?_
  refine Wc.seq ?_
  refine Wc.region ?_
  refine Wl.move rfl rfl ?_
  refine Wl.iNeq rfl rfl rfl ?_
  refine Wl.nil ?_
  refine Wx.then_code ?_
  refine Wc.condS rfl (fun hc2 => ?_) (fun hc2 => ?_)
  refine Wc.seq ?_
  refine Wc.region ?_
  refine Wl.move rfl rfl ?_
  refine Wl.assign rfl rfl ?_
  refine Wl.assign rfl rfl ?_
  refine Wl.nil ?_
  refine Wx.then_code ?_
  refine Wc.ret ?_
  refine Wx.then_ret ?_
  · refine Fin.slots (L := [_, _]) .ret (.inl rfl) (run_tmp2 rfl rfl rfl) (Ghost.le.refl _) fun _ _ => ⟨rfl, ?_⟩
    have h1 : ¬ checkE ts a ≠ 0 := by simpa using hc1
    have h3 : checkE ts b ≠ 0 := by simpa using hc2
    have h2 : partE ts a b = checkE ts b := by rw [partE, if_neg h1]
    rw [partB, h2]; simp [h3]
  refine Wc.skip ?_
  refine Wx.then_code ?_
  refine Wc.seq ?_
  refine Wc.region ?_
  refine Wl.field fd24_0 rfl rfl ?_
  refine Wl.loadO ty22 rfl (by repeat (first | exact .here | apply Has.there)) rfl rfl ?_
  refine Wl.field fd24_0 rfl rfl ?_
  refine Wl.loadO ty22 rfl (by repeat (first | exact .here | apply Has.there)) rfl rfl ?_
  refine Wl.move rfl rfl ?_
  have h1 : ¬ checkE ts a ≠ 0 := by simpa using hc1
  have h3 : checkE ts b = 0 := by simpa using hc2
  have h2 : partE ts a b = 0 := by rw [partE, if_neg h1, h3]
  refine Wl.callV rfl rfl rfl (contained_spec _ _ _ ts a b h ha hb ht hla hlb hlt (checkE_ok h3)) ?_
  refine Wl.assign rfl rfl ?_
  refine Wl.assign rfl rfl ?_
  refine Wl.nil ?_
  refine Wx.then_code ?_
  refine Wc.ret ?_
  refine Fin.slots (L := [_, _]) .ret (.inl rfl) (run_tmp2 rfl rfl rfl) (Ghost.le.refl _) fun _ _ => ⟨rfl, ?_⟩
  rw [partB, h2]; simp
end Go.Proofs.YtgpmjggdloldnaaGreatDoor

namespace Go.Proofs.YtgpmjggdloldnaaGreatDoor
open Go Go.Sx
set_option maxRecDepth 100000
def cmpI (a b : Int) : Int := if a < b then -1 else if b < a then 1 else 0
def lessS (a b : ByteArray) : Bool := Op.bytesLess a.toList b.toList
def cmpS (a b : ByteArray) : Int := if lessS a b then -1 else if !(lessS a b || a.toList == b.toList) then 1 else 0
theorem isNaNI_spec (a : Int) (h : Ghost) : SpecV Tryz.prog 89 [.int .i64 a] h (.bool false) := by
  refine SpecP.enter cl89 Tryz.func89 rfl Tryz.ntmps89 rfl fun E R => ?_
  refine Wc.seq ?_
  refine Wc.region ?_
  refine Wl.assign rfl rfl ?_
  refine Wl.nil ?_
  refine Wx.then_code ?_
  refine Wc.seq ?_
  refine Wc.region ?_
  refine Wl.move rfl rfl ?_
  refine Wl.move rfl rfl ?_
  refine Wl.iNeq rfl rfl rfl ?_
  refine Wl.assign rfl rfl ?_
  refine Wl.nil ?_
  refine Wx.then_code ?_
  refine Wc.ret ?_
  exact endV .ret (.inl rfl) rfl rfl [] (Ghost.le.refl _) (by simp)
theorem isNaNS_spec (a : ByteArray) (h : Ghost) : SpecV Tryz.prog 90 [.string a] h (.bool false) := by
  refine SpecP.enter cl90 Tryz.func90 rfl Tryz.ntmps90 rfl fun E R => ?_
  refine Wc.seq ?_
  refine Wc.region ?_
  refine Wl.assign rfl rfl ?_
  refine Wl.nil ?_
  refine Wx.then_code ?_
  refine Wc.seq ?_
  refine Wc.region ?_
  refine Wl.move rfl rfl ?_
  refine Wl.move rfl rfl ?_
  refine Wl.sNeq rfl rfl rfl ?_
  refine Wl.assign rfl rfl ?_
  refine Wl.nil ?_
  refine Wx.then_code ?_
  refine Wc.ret ?_
  exact endV .ret (.inl rfl) rfl rfl [] (Ghost.le.refl _) (by simp)
theorem CompareI_spec (a b : Int) (h : Ghost) : SpecV Tryz.prog 63 [.int .i64 a, .int .i64 b] h (.int .i64 (cmpI a b)) := by
  refine SpecP.enter cl63 Tryz.func63 rfl Tryz.ntmps63 rfl fun E R => ?_
  refine Wc.seq ?_
  refine Wc.region ?_
  refine Wl.assign rfl rfl ?_
  refine Wl.nil ?_
  refine Wx.then_code ?_
  refine Wc.seq ?_
  refine Wc.region ?_
  refine Wl.move rfl rfl ?_
  refine Wl.callV rfl rfl rfl (isNaNI_spec a h) ?_
  refine Wl.assign rfl rfl ?_
  refine Wl.nil ?_
  refine Wx.then_code ?_
  refine Wc.seq ?_
  refine Wc.region ?_
  refine Wl.move rfl rfl ?_
  refine Wl.callV rfl rfl rfl (isNaNI_spec b h) ?_
  refine Wl.assign rfl rfl ?_
  refine Wl.nil ?_
  refine Wx.then_code ?_
  refine Wc.seq ?_
  refine Wc.seq ?_
  refine Wc.region ?_
  refine Wl.move rfl rfl ?_
  refine Wl.nil ?_
  refine Wx.then_code ?_
  refine Wc.condS rfl (fun hc1 => ?_) (fun hc1 => ?_)
  refine Wc.seq ?_
  refine Wc.seq ?_
  refine Wc.region ?_
  refine Wl.move rfl rfl ?_
  refine Wl.nil ?_
  refine Wx.then_code ?_
  refine Wc.condS rfl (fun hc2 => ?_) (fun hc2 => ?_)
  refine Wc.seq ?_
  refine Wc.region ?_
  refine Wl.assign rfl rfl ?_
  refine Wl.nil ?_
  refine Wx.then_code ?_
  refine Wc.ret ?_
  refine Wx.then_ret ?_
  refine Wx.then_ret ?_
  · cases hc1
  refine Wc.skip ?_
  refine Wx.then_code ?_
  refine Wc.seq ?_
  refine Wc.region ?_
  refine Wl.assign rfl rfl ?_
  refine Wl.nil ?_
  refine Wx.then_code ?_
  refine Wc.ret ?_
  refine Wx.then_ret ?_
  · cases hc1
  refine Wc.skip ?_
  refine Wx.then_code ?_
  refine Wc.seq ?_
  refine Wc.seq ?_
  refine Wc.region ?_
  refine Wl.move rfl rfl ?_
  refine Wl.nil ?_
  refine Wx.then_code ?_
  refine Wc.condS rfl (fun hc3 => ?_) (fun hc3 => ?_)
  refine Wc.seq ?_
  refine Wc.region ?_
  refine Wl.assign rfl rfl ?_
  refine Wl.nil ?_
  refine Wx.then_code ?_
  refine Wc.ret ?_
  refine Wx.then_ret ?_
  · cases hc3
  refine Wc.skip ?_
  refine Wx.then_code ?_
  refine Wc.seq ?_
  refine Wc.seq ?_
  refine Wc.region ?_
  refine Wl.move rfl rfl ?_
  refine Wl.move rfl rfl ?_
  refine Wl.iLss rfl rfl rfl ?_
  refine Wl.nil ?_
  refine Wx.then_code ?_
  refine Wc.condS rfl (fun hc4 => ?_) (fun hc4 => ?_)
  refine Wc.seq ?_
  refine Wc.region ?_
  refine Wl.assign rfl rfl ?_
  refine Wl.nil ?_
  refine Wx.then_code ?_
  refine Wc.ret ?_
  refine Wx.then_ret ?_
  · exact endV .ret (.inl rfl) rfl rfl [] (Ghost.le.refl _) (by rw [cmpI, if_pos (of_decide_eq_true hc4)])
  refine Wc.skip ?_
  refine Wx.then_code ?_
  refine Wc.seq ?_
  refine Wc.seq ?_
  refine Wc.region ?_
  refine Wl.move rfl rfl ?_
  refine Wl.move rfl rfl ?_
  refine Wl.iGtr rfl rfl rfl ?_
  refine Wl.nil ?_
  refine Wx.then_code ?_
  refine Wc.condS rfl (fun hc5 => ?_) (fun hc5 => ?_)
  refine Wc.seq ?_
  refine Wc.region ?_
  refine Wl.assign rfl rfl ?_
  refine Wl.nil ?_
  refine Wx.then_code ?_
  refine Wc.ret ?_
  refine Wx.then_ret ?_
  · exact endV .ret (.inl rfl) rfl rfl [] (Ghost.le.refl _) (by rw [cmpI, if_neg (of_decide_eq_false hc4), if_pos (of_decide_eq_true hc5)])
  refine Wc.skip ?_
  refine Wx.then_code ?_
  refine Wc.seq ?_
  refine Wc.region ?_
  refine Wl.assign rfl rfl ?_
  refine Wl.nil ?_
  refine Wx.then_code ?_
  refine Wc.ret ?_
  · exact endV .ret (.inl rfl) rfl rfl [] (Ghost.le.refl _) (by rw [cmpI, if_neg (of_decide_eq_false hc4), if_neg (of_decide_eq_false hc5)])
theorem CompareS_spec (a b : ByteArray) (h : Ghost) : SpecV Tryz.prog 64 [.string a, .string b] h (.int .i64 (cmpS a b)) := by
  refine SpecP.enter cl64 Tryz.func64 rfl Tryz.ntmps64 rfl fun E R => ?_
  refine Wc.seq ?_
  refine Wc.region ?_
  refine Wl.assign rfl rfl ?_
  refine Wl.nil ?_
  refine Wx.then_code ?_
  refine Wc.seq ?_
  refine Wc.region ?_
  refine Wl.move rfl rfl ?_
  refine Wl.callV rfl rfl rfl (isNaNS_spec a h) ?_
  refine Wl.assign rfl rfl ?_
  refine Wl.nil ?_
  refine Wx.then_code ?_
  refine Wc.seq ?_
  refine Wc.region ?_
  refine Wl.move rfl rfl ?_
  refine Wl.callV rfl rfl rfl (isNaNS_spec b h) ?_
  refine Wl.assign rfl rfl ?_
  refine Wl.nil ?_
  refine Wx.then_code ?_
  refine Wc.seq ?_
  refine Wc.seq ?_
  refine Wc.region ?_
  refine Wl.move rfl rfl ?_
  refine Wl.nil ?_
  refine Wx.then_code ?_
  refine Wc.condS rfl (fun hc1 => ?_) (fun hc1 => ?_)
  refine Wc.seq ?_
  refine Wc.seq ?_
  refine Wc.region ?_
  refine Wl.move rfl rfl ?_
  refine Wl.nil ?_
  refine Wx.then_code ?_
  refine Wc.condS rfl (fun hc2 => ?_) (fun hc2 => ?_)
  refine Wc.seq ?_
  refine Wc.region ?_
  refine Wl.assign rfl rfl ?_
  refine Wl.nil ?_
  refine Wx.then_code ?_
  refine Wc.ret ?_
  refine Wx.then_ret ?_
  refine Wx.then_ret ?_
  · cases hc1
  refine Wc.skip ?_
  refine Wx.then_code ?_
  refine Wc.seq ?_
  refine Wc.region ?_
  refine Wl.assign rfl rfl ?_
  refine Wl.nil ?_
  refine Wx.then_code ?_
  refine Wc.ret ?_
  refine Wx.then_ret ?_
  · cases hc1
  refine Wc.skip ?_
  refine Wx.then_code ?_
  refine Wc.seq ?_
  refine Wc.seq ?_
  refine Wc.region ?_
  refine Wl.move rfl rfl ?_
  refine Wl.nil ?_
  refine Wx.then_code ?_
  refine Wc.condS rfl (fun hc3 => ?_) (fun hc3 => ?_)
  refine Wc.seq ?_
  refine Wc.region ?_
  refine Wl.assign rfl rfl ?_
  refine Wl.nil ?_
  refine Wx.then_code ?_
  refine Wc.ret ?_
  refine Wx.then_ret ?_
  · cases hc3
  refine Wc.skip ?_
  refine Wx.then_code ?_
  refine Wc.seq ?_
  refine Wc.seq ?_
  refine Wc.region ?_
  refine Wl.move rfl rfl ?_
  refine Wl.move rfl rfl ?_
  refine Wl.sLss rfl rfl rfl ?_
  refine Wl.nil ?_
  refine Wx.then_code ?_
  refine Wc.condS rfl (fun hc4 => ?_) (fun hc4 => ?_)
  refine Wc.seq ?_
  refine Wc.region ?_
  refine Wl.assign rfl rfl ?_
  refine Wl.nil ?_
  refine Wx.then_code ?_
  refine Wc.ret ?_
  refine Wx.then_ret ?_
  · exact endV .ret (.inl rfl) rfl rfl [] (Ghost.le.refl _) (by rw [cmpS, if_pos (show lessS a b = true from hc4)])
  refine Wc.skip ?_
  refine Wx.then_code ?_
  refine Wc.seq ?_
  refine Wc.seq ?_
  refine Wc.region ?_
  refine Wl.move rfl rfl ?_
  refine Wl.move rfl rfl ?_
  refine Wl.sGtr rfl rfl rfl ?_
  refine Wl.nil ?_
  refine Wx.then_code ?_
  refine Wc.condS rfl (fun hc5 => ?_) (fun hc5 => ?_)
  refine Wc.seq ?_
  refine Wc.region ?_
  refine Wl.assign rfl rfl ?_
  refine Wl.nil ?_
  refine Wx.then_code ?_
  refine Wc.ret ?_
  refine Wx.then_ret ?_
  · exact endV .ret (.inl rfl) rfl rfl [] (Ghost.le.refl _) (by rw [cmpS, if_neg (by rw [show lessS a b = false from hc4]; simp), if_pos (show (!(lessS a b || a.toList == b.toList)) = true from hc5)])
  refine Wc.skip ?_
  refine Wx.then_code ?_
  refine Wc.seq ?_
  refine Wc.region ?_
  refine Wl.assign rfl rfl ?_
  refine Wl.nil ?_
  refine Wx.then_code ?_
  refine Wc.ret ?_
  · exact endV .ret (.inl rfl) rfl rfl [] (Ghost.le.refl _) (by rw [cmpS, if_neg (by rw [show lessS a b = false from hc4]; simp), if_neg (by rw [show (!(lessS a b || a.toList == b.toList)) = false from hc5]; simp)])
def orL : List Int → Int
  | [] => 0
  | x :: r => if x ≠ 0 then x else orL r
def intE (x : Int) : List Value := [.int .i64 x]
theorem orL_take {l : List Int} {i : Nat} (h : ∀ x ∈ l.take i, x = 0) : orL l = orL (l.drop i) := by
  induction l generalizing i with
  | nil => simp
  | cons x l ih =>
    cases i with
    | zero => rfl
    | succ i =>
      rw [List.take_succ_cons] at h
      rw [List.drop_succ_cons, orL, if_neg (by simpa using h x List.mem_cons_self)]
      exact ih fun y hy => h y (List.mem_cons_of_mem _ hy)
theorem Or_spec (v : Value) (l : List Int) (h : Ghost) (hv : Sl h (fun x vs => vs = intE x) 1 v l) (hl : l.length ≤ 1000000) : SpecV Tryz.prog 62 [v] h (.int .i64 (orL l)) := by
  obtain ⟨ao, cap, rfl, hcap⟩ := hv.shape
  refine SpecP.enter cl62 Tryz.func62 rfl Tryz.ntmps62 rfl fun E R => ?_
  refine Wc.seq ?_
  refine Wc.region ?_
  refine Wl.assign rfl rfl ?_
  refine Wl.nil ?_
  refine Wx.then_code ?_
  refine Wc.seq ?_
  refine Wc.region ?_
  refine Wl.assign rfl rfl ?_
  refine Wl.nil ?_
  refine Wx.then_code ?_
  refine Wc.seq ?_
  refine Wc.seq ?_
  refine Wc.region ?_
  refine Wl.move rfl rfl ?_
  refine Wl.slLen Tryz.underlying131 rfl rfl ?_
  refine Wl.move rfl rfl ?_
  refine Wl.nil ?_
  refine Wx.then_code ?_
  refine Wc.block ?_
  refine Wc.loop (ι := Nat) (fun i => i ≤ l.length ∧ ∀ x ∈ l.take i, x = 0) (fun i => [(3, .int .i64 0), (6, .slice ao l.length cap), (7, .int .i64 l.length), (8, .int .i64 i)]) (fun _ => _) (fun _ => _) (fun i => l.length - i) 0
    ⟨Nat.zero_le _, by simp⟩ (.cons rfl (.cons rfl (.cons rfl (.cons rfl (.nil _))))) rfl rfl fun i ⟨hi, hall⟩ => ?_
  refine Wc.seq ?_
  refine Wc.region ?_
  refine Wl.iLss rfl rfl rfl ?_
  refine Wl.nil ?_
  refine Wx.then_code ?_
  refine Wc.seq ?_
  refine Wc.condS rfl (fun hc1 => ?_) (fun hc1 => ?_)
  refine Wc.skip ?_
  refine Wx.then_code ?_
  refine Wc.seq ?_
  refine Wc.block ?_
  refine Wc.seq ?_
  refine Wc.region ?_
  have hlt : i < l.length := by have := of_decide_eq_true hc1; omega
  have hx := List.getElem?_eq_getElem hlt
  refine Wl.elemF sl131 rfl hv rfl rfl hx rfl fun b o hseg => ?_
  refine Wl.loadG1 ty3 rfl hseg rfl ?_
  refine Wl.assign rfl rfl ?_
  refine Wl.nil ?_
  refine Wx.then_code ?_
  refine Wc.seq ?_
  refine Wc.region ?_
  refine Wl.move rfl rfl ?_
  refine Wl.move rfl rfl ?_
  refine Wl.iNeq rfl rfl rfl ?_
  refine Wl.nil ?_
  refine Wx.then_code ?_
  refine Wc.condS rfl (fun hc2 => ?_) (fun hc2 => ?_)
  refine Wc.seq ?_
  refine Wc.region ?_
  refine Wl.move rfl rfl ?_
  refine Wl.assign rfl rfl ?_
  refine Wl.nil ?_
  refine Wx.then_code ?_
  refine Wc.ret ?_
  refine Wx.block_ret ?_
  refine Wx.then_ret ?_
  refine Wx.then_ret ?_
  refine Wx.block_ret ?_
  refine Wx.then_ret ?_
  · refine endV .ret (.inl rfl) rfl rfl [] (Ghost.le.refl _) ?_
    rw [orL_take hall, List.drop_eq_getElem_cons hlt, orL, if_pos (by simpa using hc2)]
  refine Wc.skip ?_
  refine Wx.block_normal ?_
  refine Wx.then_code ?_
  refine Wc.region ?_
  refine Wl.inc rfl rfl (by first | assumption | omega | (have hx := of_decide_eq_true hc2; omega) | (have hx := of_decide_eq_true hc1; omega)) ?_
  refine Wl.move rfl rfl ?_
  refine Wl.nil ?_
  · refine Wx.again (i + 1) ⟨hlt, fun x hx2 => ?_⟩ (by omega) (.cons rfl (.cons rfl (.cons rfl (.cons rfl (.nil _))))) rfl .refl
    rw [List.take_add_one, hx] at hx2
    rcases List.mem_append.1 hx2 with h | h
    · exact hall x h
    · have e : x = l[i] := by simpa using h
      rw [e]; simpa using hc2
  refine Wc.exit ?_
  refine Wx.then_exit ?_
  refine Wx.then_exit ?_
  refine Wx.block_exit ?_
  refine Wx.then_code ?_
  refine Wc.seq ?_
  refine Wc.region ?_
  refine Wl.move rfl rfl ?_
  refine Wl.assign rfl rfl ?_
  refine Wl.nil ?_
  refine Wx.then_code ?_
  refine Wc.ret ?_
  · refine endV .ret (.inl rfl) rfl rfl [] (Ghost.le.refl _) ?_
    have hi' : i = l.length := by have := of_decide_eq_false hc1; omega
    rw [orL_take hall, hi', List.drop_length]; rfl
theorem evs2 {K : List (Nat × Value)} {x y : Operand} {u v : Value} (h1 : ev K x = some u) (h2 : ev K y = some v) : evs K [x, y] = some [u, v] := by simp [evs, h1, h2]
def compareA (a b : Atom) : Int := orL [cmpI a.kind b.kind, cmpS a.name b.name, cmpS a.x b.x, cmpS a.y b.y, cmpI a.lo b.lo, cmpI a.hi b.hi]
theorem compare_spec (a b : Atom) (h : Ghost) : SpecV Tryz.prog 42 [.agg a.enc.toArray, .agg b.enc.toArray] h (.int .i64 (compareA a b)) := by
  refine SpecP.enter cl42 Tryz.func42 rfl Tryz.ntmps42 rfl fun E R => ?_
  refine Wc.seq ?_
  refine Wc.region ?_
  refine Wl.box rfl (by rfl) rfl (fun b1 => ?_)
  refine Wl.box rfl (by rfl) rfl (fun b2 => ?_)
  refine Wl.assign rfl rfl ?_
  refine Wl.nil ?_
  refine Wx.then_code ?_
  refine Wc.seq ?_
  apply Wc.draw (m := 30) (D := [[], [0], [], [2], [1, 3], [], [5], [], [7], [6, 8], [], [10], [], [12], [11, 13], [], [15], [], [17], [16, 18], [], [20], [], [22], [21, 23], [], [25], [], [27], [26, 28]]) (Ys := [.det _, .det _, .det _, .det _, .det (.int .i64 (cmpI a.kind b.kind)), .det _, .det _, .det _, .det _, .det (.int .i64 (cmpS a.name b.name)), .det _, .det _, .det _, .det _, .det (.int .i64 (cmpS a.x b.x)), .det _, .det _, .det _, .det _, .det (.int .i64 (cmpS a.y b.y)), .det _, .det _, .det _, .det _, .det (.int .i64 (cmpI a.lo b.lo)), .det _, .det _, .det _, .det _, .det (.int .i64 (cmpI a.hi b.hi))])
  · exact follows
  · kernel_rfl
  · rfl
  · rfl
  · rfl
  · skip
    apply Locs.mk
    · intro env K' h' S' hs hd hl hY
      refine Wl.field fd37_0 (hs _ _ rfl) rfl ?_
      refine Wl.nil ?_
      exact Wx.gives0 _ (Ghost.le.refl _) ⟨rfl, rfl⟩ (Sub.refl _)
    apply Locs.mk
    · intro env K' h' S' hs hd hl hY
      refine Wl.loadO ty3 (detL (hd 0 (by decide)) (hY 0 (by decide))) (Has.right (by repeat (first | exact .here | apply Has.there))) rfl rfl ?_
      refine Wl.nil ?_
      exact Wx.gives0 _ (Ghost.le.refl _) ⟨rfl, rfl⟩ (Sub.refl _)
    apply Locs.mk
    · intro env K' h' S' hs hd hl hY
      refine Wl.field fd37_0 (hs _ _ rfl) rfl ?_
      refine Wl.nil ?_
      exact Wx.gives0 _ (Ghost.le.refl _) ⟨rfl, rfl⟩ (Sub.refl _)
    apply Locs.mk
    · intro env K' h' S' hs hd hl hY
      refine Wl.loadO ty3 (detL (hd 2 (by decide)) (hY 2 (by decide))) (Has.right (by repeat (first | exact .here | apply Has.there))) rfl rfl ?_
      refine Wl.nil ?_
      exact Wx.gives0 _ (Ghost.le.refl _) ⟨rfl, rfl⟩ (Sub.refl _)
    apply Locs.mk
    · intro env K' h' S' hs hd hl hY
      refine Wl.callV rfl (evs2 (detL (hd 1 (by decide)) (hY 1 (by decide))) (detL (hd 3 (by decide)) (hY 3 (by decide)))) rfl (CompareI_spec a.kind b.kind h') ?_
      refine Wl.nil ?_
      exact Wx.gives0 _ (Ghost.le.refl _) ⟨rfl, rfl⟩ (Sub.refl _)
    apply Locs.mk
    · intro env K' h' S' hs hd hl hY
      refine Wl.field fd37_1 (hs _ _ rfl) rfl ?_
      refine Wl.nil ?_
      exact Wx.gives0 _ (Ghost.le.refl _) ⟨rfl, rfl⟩ (Sub.refl _)
    apply Locs.mk
    · intro env K' h' S' hs hd hl hY
      refine Wl.loadO ty9 (detL (hd 5 (by decide)) (hY 5 (by decide))) (Has.right (by repeat (first | exact .here | apply Has.there))) rfl rfl ?_
      refine Wl.nil ?_
      exact Wx.gives0 _ (Ghost.le.refl _) ⟨rfl, rfl⟩ (Sub.refl _)
    apply Locs.mk
    · intro env K' h' S' hs hd hl hY
      refine Wl.field fd37_1 (hs _ _ rfl) rfl ?_
      refine Wl.nil ?_
      exact Wx.gives0 _ (Ghost.le.refl _) ⟨rfl, rfl⟩ (Sub.refl _)
    apply Locs.mk
    · intro env K' h' S' hs hd hl hY
      refine Wl.loadO ty9 (detL (hd 7 (by decide)) (hY 7 (by decide))) (Has.right (by repeat (first | exact .here | apply Has.there))) rfl rfl ?_
      refine Wl.nil ?_
      exact Wx.gives0 _ (Ghost.le.refl _) ⟨rfl, rfl⟩ (Sub.refl _)
    apply Locs.mk
    · intro env K' h' S' hs hd hl hY
      refine Wl.callV rfl (evs2 (detL (hd 6 (by decide)) (hY 6 (by decide))) (detL (hd 8 (by decide)) (hY 8 (by decide)))) rfl (CompareS_spec a.name b.name h') ?_
      refine Wl.nil ?_
      exact Wx.gives0 _ (Ghost.le.refl _) ⟨rfl, rfl⟩ (Sub.refl _)
    apply Locs.mk
    · intro env K' h' S' hs hd hl hY
      refine Wl.field fd37_2 (hs _ _ rfl) rfl ?_
      refine Wl.nil ?_
      exact Wx.gives0 _ (Ghost.le.refl _) ⟨rfl, rfl⟩ (Sub.refl _)
    apply Locs.mk
    · intro env K' h' S' hs hd hl hY
      refine Wl.loadO ty9 (detL (hd 10 (by decide)) (hY 10 (by decide))) (Has.right (by repeat (first | exact .here | apply Has.there))) rfl rfl ?_
      refine Wl.nil ?_
      exact Wx.gives0 _ (Ghost.le.refl _) ⟨rfl, rfl⟩ (Sub.refl _)
    apply Locs.mk
    · intro env K' h' S' hs hd hl hY
      refine Wl.field fd37_2 (hs _ _ rfl) rfl ?_
      refine Wl.nil ?_
      exact Wx.gives0 _ (Ghost.le.refl _) ⟨rfl, rfl⟩ (Sub.refl _)
    apply Locs.mk
    · intro env K' h' S' hs hd hl hY
      refine Wl.loadO ty9 (detL (hd 12 (by decide)) (hY 12 (by decide))) (Has.right (by repeat (first | exact .here | apply Has.there))) rfl rfl ?_
      refine Wl.nil ?_
      exact Wx.gives0 _ (Ghost.le.refl _) ⟨rfl, rfl⟩ (Sub.refl _)
    apply Locs.mk
    · intro env K' h' S' hs hd hl hY
      refine Wl.callV rfl (evs2 (detL (hd 11 (by decide)) (hY 11 (by decide))) (detL (hd 13 (by decide)) (hY 13 (by decide)))) rfl (CompareS_spec a.x b.x h') ?_
      refine Wl.nil ?_
      exact Wx.gives0 _ (Ghost.le.refl _) ⟨rfl, rfl⟩ (Sub.refl _)
    apply Locs.mk
    · intro env K' h' S' hs hd hl hY
      refine Wl.field fd37_3 (hs _ _ rfl) rfl ?_
      refine Wl.nil ?_
      exact Wx.gives0 _ (Ghost.le.refl _) ⟨rfl, rfl⟩ (Sub.refl _)
    apply Locs.mk
    · intro env K' h' S' hs hd hl hY
      refine Wl.loadO ty9 (detL (hd 15 (by decide)) (hY 15 (by decide))) (Has.right (by repeat (first | exact .here | apply Has.there))) rfl rfl ?_
      refine Wl.nil ?_
      exact Wx.gives0 _ (Ghost.le.refl _) ⟨rfl, rfl⟩ (Sub.refl _)
    apply Locs.mk
    · intro env K' h' S' hs hd hl hY
      refine Wl.field fd37_3 (hs _ _ rfl) rfl ?_
      refine Wl.nil ?_
      exact Wx.gives0 _ (Ghost.le.refl _) ⟨rfl, rfl⟩ (Sub.refl _)
    apply Locs.mk
    · intro env K' h' S' hs hd hl hY
      refine Wl.loadO ty9 (detL (hd 17 (by decide)) (hY 17 (by decide))) (Has.right (by repeat (first | exact .here | apply Has.there))) rfl rfl ?_
      refine Wl.nil ?_
      exact Wx.gives0 _ (Ghost.le.refl _) ⟨rfl, rfl⟩ (Sub.refl _)
    apply Locs.mk
    · intro env K' h' S' hs hd hl hY
      refine Wl.callV rfl (evs2 (detL (hd 16 (by decide)) (hY 16 (by decide))) (detL (hd 18 (by decide)) (hY 18 (by decide)))) rfl (CompareS_spec a.y b.y h') ?_
      refine Wl.nil ?_
      exact Wx.gives0 _ (Ghost.le.refl _) ⟨rfl, rfl⟩ (Sub.refl _)
    apply Locs.mk
    · intro env K' h' S' hs hd hl hY
      refine Wl.field fd37_4 (hs _ _ rfl) rfl ?_
      refine Wl.nil ?_
      exact Wx.gives0 _ (Ghost.le.refl _) ⟨rfl, rfl⟩ (Sub.refl _)
    apply Locs.mk
    · intro env K' h' S' hs hd hl hY
      refine Wl.loadO ty3 (detL (hd 20 (by decide)) (hY 20 (by decide))) (Has.right (by repeat (first | exact .here | apply Has.there))) rfl rfl ?_
      refine Wl.nil ?_
      exact Wx.gives0 _ (Ghost.le.refl _) ⟨rfl, rfl⟩ (Sub.refl _)
    apply Locs.mk
    · intro env K' h' S' hs hd hl hY
      refine Wl.field fd37_4 (hs _ _ rfl) rfl ?_
      refine Wl.nil ?_
      exact Wx.gives0 _ (Ghost.le.refl _) ⟨rfl, rfl⟩ (Sub.refl _)
    apply Locs.mk
    · intro env K' h' S' hs hd hl hY
      refine Wl.loadO ty3 (detL (hd 22 (by decide)) (hY 22 (by decide))) (Has.right (by repeat (first | exact .here | apply Has.there))) rfl rfl ?_
      refine Wl.nil ?_
      exact Wx.gives0 _ (Ghost.le.refl _) ⟨rfl, rfl⟩ (Sub.refl _)
    apply Locs.mk
    · intro env K' h' S' hs hd hl hY
      refine Wl.callV rfl (evs2 (detL (hd 21 (by decide)) (hY 21 (by decide))) (detL (hd 23 (by decide)) (hY 23 (by decide)))) rfl (CompareI_spec a.lo b.lo h') ?_
      refine Wl.nil ?_
      exact Wx.gives0 _ (Ghost.le.refl _) ⟨rfl, rfl⟩ (Sub.refl _)
    apply Locs.mk
    · intro env K' h' S' hs hd hl hY
      refine Wl.field fd37_5 (hs _ _ rfl) rfl ?_
      refine Wl.nil ?_
      exact Wx.gives0 _ (Ghost.le.refl _) ⟨rfl, rfl⟩ (Sub.refl _)
    apply Locs.mk
    · intro env K' h' S' hs hd hl hY
      refine Wl.loadO ty3 (detL (hd 25 (by decide)) (hY 25 (by decide))) (Has.right (by repeat (first | exact .here | apply Has.there))) rfl rfl ?_
      refine Wl.nil ?_
      exact Wx.gives0 _ (Ghost.le.refl _) ⟨rfl, rfl⟩ (Sub.refl _)
    apply Locs.mk
    · intro env K' h' S' hs hd hl hY
      refine Wl.field fd37_5 (hs _ _ rfl) rfl ?_
      refine Wl.nil ?_
      exact Wx.gives0 _ (Ghost.le.refl _) ⟨rfl, rfl⟩ (Sub.refl _)
    apply Locs.mk
    · intro env K' h' S' hs hd hl hY
      refine Wl.loadO ty3 (detL (hd 27 (by decide)) (hY 27 (by decide))) (Has.right (by repeat (first | exact .here | apply Has.there))) rfl rfl ?_
      refine Wl.nil ?_
      exact Wx.gives0 _ (Ghost.le.refl _) ⟨rfl, rfl⟩ (Sub.refl _)
    apply Locs.mk
    · intro env K' h' S' hs hd hl hY
      refine Wl.callV rfl (evs2 (detL (hd 26 (by decide)) (hY 26 (by decide))) (detL (hd 28 (by decide)) (hY 28 (by decide)))) rfl (CompareI_spec a.hi b.hi h') ?_
      refine Wl.nil ?_
      exact Wx.gives0 _ (Ghost.le.refl _) ⟨rfl, rfl⟩ (Sub.refl _)
    trivial
  · exact ⟨trivial, trivial, trivial, trivial, trivial, trivial, trivial, trivial, trivial, trivial, trivial, trivial, trivial, trivial, trivial, trivial, trivial, trivial, trivial, trivial, trivial, trivial, trivial, trivial, trivial, trivial, trivial, trivial, trivial, trivial, trivial⟩
  intro h' hl'
  show Wl _ _ _ [_, _, _] _ ((34, _) :: (33, _) :: (32, _) :: (31, _) :: (30, _) :: (29, _) :: (28, _) :: (27, _) :: (26, _) :: (25, _) :: (24, _) :: (23, _) :: (22, _) :: (21, _) :: (20, _) :: (19, _) :: (18, _) :: (17, _) :: (16, _) :: (15, _) :: (14, _) :: (13, _) :: (12, _) :: (11, _) :: (10, _) :: (9, _) :: (8, _) :: (7, _) :: (6, _) :: (5, _) :: _) _ _ _
  refine Wl.buildSlice sl131 rfl rfl rfl (by repeat (first | rfl | exact .nil | apply Cellss.cons)) rfl rfl rfl (fun b3 => ?_)
  refine Wl.freeze fun hF => ?_
  have hS := Sl.of_seg (enc := intE) (k := 1) (cap := 6) (l := [cmpI a.kind b.kind, cmpS a.name b.name, cmpS a.x b.x, cmpS a.y b.y, cmpI a.lo b.lo, cmpI a.hi b.hi]) (fun _ => rfl) (Seg.of_block (hF _ (.head _))) (Nat.le_refl _)
  refine Wl.callV rfl rfl rfl (Or_spec _ [cmpI a.kind b.kind, cmpS a.name b.name, cmpS a.x b.x, cmpS a.y b.y, cmpI a.lo b.lo, cmpI a.hi b.hi] _ hS (by simp)) ?_
  refine Wl.assign rfl rfl ?_
  refine Wl.nil ?_
  refine Wx.then_code ?_
  refine Wc.ret ?_
  exact endV .ret (.inl rfl) rfl rfl [_, _] (hl'.trans (Ghost.le_ext _ _)) rfl
end Go.Proofs.YtgpmjggdloldnaaGreatDoor

namespace Go.Proofs.YtgpmjggdloldnaaGreatDoor
open Go Go.Sx
set_option maxRecDepth 100000
instance : Inhabited Atom := ⟨⟨0, ⟨#[]⟩, ⟨#[]⟩, ⟨#[]⟩, 0, 0⟩⟩
/-! ### a contract in the world's own words -/
theorem world_eq {w w' : World} (h1 : w'.os = w.os) (h2 : w'.tape = w.tape) (h3 : w'.output = w.output) (h4 : w.drawn ≤ w'.drawn) (h5 : ∀ (b : Nat) (o : Obj), w.heap[b]? = some o → w'.heap[b]? = some o) : ∃ q os, w' = Go.Sort.grow (w.drewN q) os := by
  have hsz : w.heap.size ≤ w'.heap.size := by
    rcases Nat.eq_zero_or_pos w.heap.size with h | h
    · omega
    · have := h5 (w.heap.size - 1) _ (Array.getElem?_eq_getElem (by omega))
      have := (Array.getElem?_eq_some_iff.1 this).1
      omega
  refine ⟨w'.drawn - w.drawn, w'.heap.extract w.heap.size w'.heap.size, ?_⟩
  have hh : w'.heap = w.heap ++ w'.heap.extract w.heap.size w'.heap.size := by
    apply Array.ext_getElem?
    intro i
    rcases Nat.lt_or_ge i w.heap.size with h | h
    · rw [Array.getElem?_append_left h]
      have e := Array.getElem?_eq_getElem h
      rw [e]; exact h5 i _ e
    · rw [Array.getElem?_append_right h, Array.getElem?_extract]
      simp only [Nat.min_self]
      rw [show w.heap.size + (i - w.heap.size) = i by omega]
      by_cases hi : i < w'.heap.size
      · rw [if_pos (by omega)]
      · rw [if_neg (by omega), Array.getElem?_eq_none (by omega)]
  obtain ⟨a1, a2, a3, a4, a5⟩ := w
  obtain ⟨b1, b2, b3, b4, b5⟩ := w'
  simp only [Go.Sort.grow, World.drewN] at *
  subst h1 h2 h3
  congr 1
  omega
theorem SpecV.world {P : Program} {f : FuncId} {args : List Value} {v : Value} (H : ∀ h, SpecV P f args h v) (w : World) : Calls P f args.toArray w fun e w' => e = .returned v ∧ ∃ q os, w' = Go.Sort.grow (w.drewN q) os := by
  have h0 : Heap w (fun b => w.heap[b]?) ([] ++ []).flatten w := ⟨rfl, rfl, rfl, Nat.le_refl _, fun _ _ e => e, fun p hp => by simp at hp, fun p hp => by simp at hp, by simp⟩
  refine ((H (fun b => w.heap[b]?)).2 w [] w h0).mono ?_
  rintro e w' ⟨u, h', F', rfl, hl, hH, _, rfl⟩
  exact ⟨rfl, world_eq hH.os hH.tape hH.output hH.drawn fun b o e => hH.imm b o (hl b o e)⟩
/-! ### orders -/
structure LinC {α : Type} (c : α → α → Int) : Prop where
  zero : ∀ a b, c a b = 0 ↔ a = b
  anti : ∀ a b, c a b < 0 ↔ 0 < c b a
  trans : ∀ a b d, c a b < 0 → c b d < 0 → c a d < 0
theorem linI : LinC cmpI := by
  refine ⟨fun a b => ?_, fun a b => ?_, fun a b d => ?_⟩ <;> unfold cmpI <;> (repeat' split) <;> omega
theorem lessS_iff (a b : ByteArray) : lessS a b = true ↔ a.toList < b.toList := by rw [lessS, Go.Proofs.bytesLess_eq]; simp
theorem cmpS_lt (a b : ByteArray) : cmpS a b < 0 ↔ a.toList < b.toList := by
  rw [← lessS_iff, cmpS]
  cases h : lessS a b
  · simp only [Bool.false_eq_true, if_false, iff_false]; split <;> omega
  · simp
theorem cmpS_gt (a b : ByteArray) : 0 < cmpS a b ↔ b.toList < a.toList := by
  rw [cmpS]
  by_cases h1 : a.toList < b.toList
  · rw [if_pos ((lessS_iff a b).2 h1)]
    constructor
    · intro h; omega
    · intro h; exact absurd h (List.lt_asymm h1)
  · have h2 : lessS a b = false := by rw [Bool.eq_false_iff]; exact fun h => h1 ((lessS_iff a b).1 h)
    rw [h2, if_neg (by simp), Bool.false_or]
    by_cases h3 : a.toList = b.toList
    · simp [h3]
    · have h4 : (a.toList == b.toList) = false := by simpa using h3
      rw [h4, if_pos (by simp)]
      refine ⟨fun _ => ?_, fun _ => by omega⟩
      have h5 : b.toList ≤ a.toList := h1
      rcases Classical.em (b.toList < a.toList) with h | h
      · exact h
      · exact absurd (List.le_antisymm (show a.toList ≤ b.toList from h) h5) h3
theorem linS : LinC cmpS := by
  refine ⟨fun a b => ?_, fun a b => by rw [cmpS_lt, cmpS_gt], fun a b d => ?_⟩
  · constructor
    · intro h
      have h1 : ¬ a.toList < b.toList := fun e => by have := (cmpS_lt a b).2 e; omega
      have h2 : ¬ b.toList < a.toList := fun e => by have := (cmpS_gt a b).2 e; omega
      exact toList_inj.1 (List.le_antisymm h2 h1)
    · rintro rfl
      have h1 : ¬ cmpS a a < 0 := fun e => List.lt_irrefl _ ((cmpS_lt a a).1 e)
      have h2 : ¬ 0 < cmpS a a := fun e => List.lt_irrefl _ ((cmpS_gt a a).1 e)
      omega
  · rw [cmpS_lt, cmpS_lt, cmpS_lt]; exact List.lt_trans
theorem linLex {α β : Type} {c1 : α → α → Int} {c2 : β → β → Int} (h1 : LinC c1) (h2 : LinC c2) : LinC (fun a b : α × β => if c1 a.1 b.1 ≠ 0 then c1 a.1 b.1 else c2 a.2 b.2) := by
  refine ⟨fun a b => ?_, fun a b => ?_, fun a b d => ?_⟩
  · obtain ⟨a1, a2⟩ := a; obtain ⟨b1, b2⟩ := b
    dsimp only
    split
    · rename_i h
      constructor
      · intro e; exact absurd e h
      · intro e; cases e; exact absurd ((h1.zero a1 a1).2 rfl) h
    · rename_i h
      have e1 : a1 = b1 := (h1.zero _ _).1 (by omega)
      rw [h2.zero]; simp [e1]
  · by_cases h : c1 a.1 b.1 = 0
    · have e1 : a.1 = b.1 := (h1.zero _ _).1 h
      have h' : c1 b.1 a.1 = 0 := (h1.zero _ _).2 e1.symm
      rw [if_neg (by omega), if_neg (by omega)]; exact h2.anti _ _
    · have h' : c1 b.1 a.1 ≠ 0 := fun e => h ((h1.zero _ _).2 ((h1.zero _ _).1 e).symm)
      rw [if_pos h, if_pos h']; exact h1.anti _ _
  · intro e1 e2
    by_cases h : c1 a.1 b.1 = 0
    · have ea : a.1 = b.1 := (h1.zero _ _).1 h
      rw [if_neg (by omega)] at e1
      rw [ea]
      split at e2
      · rename_i h3; rw [if_pos h3]; exact e2
      · rename_i h3; rw [if_neg h3]; exact h2.trans _ _ _ e1 e2
    · rw [if_pos h] at e1
      by_cases h3 : c1 b.1 d.1 = 0
      · have eb : b.1 = d.1 := (h1.zero _ _).1 h3
        rw [← eb, if_pos h]; exact e1
      · rw [if_pos h3] at e2
        have := h1.trans _ _ _ e1 e2
        rw [if_pos (by omega)]; exact this
theorem linEnd : LinC (fun _ _ : Unit => 0) := ⟨fun a b => by simp, fun a b => by simp, fun a b d => by simp⟩
def keyA (a : Atom) : Int × ByteArray × ByteArray × ByteArray × Int × Int × Unit := (a.kind, a.name, a.x, a.y, a.lo, a.hi, ())
theorem linA : LinC compareA := by
  have h := linLex linI (linLex linS (linLex linS (linLex linS (linLex linI (linLex linI linEnd)))))
  have e : ∀ a b : Atom, compareA a b = (fun a b : Int × ByteArray × ByteArray × ByteArray × Int × Int × Unit => if cmpI a.1 b.1 ≠ 0 then cmpI a.1 b.1 else if cmpS a.2.1 b.2.1 ≠ 0 then cmpS a.2.1 b.2.1 else if cmpS a.2.2.1 b.2.2.1 ≠ 0 then cmpS a.2.2.1 b.2.2.1 else
      if cmpS a.2.2.2.1 b.2.2.2.1 ≠ 0 then cmpS a.2.2.2.1 b.2.2.2.1 else if cmpI a.2.2.2.2.1 b.2.2.2.2.1 ≠ 0 then cmpI a.2.2.2.2.1 b.2.2.2.2.1 else if cmpI a.2.2.2.2.2.1 b.2.2.2.2.2.1 ≠ 0 then cmpI a.2.2.2.2.2.1 b.2.2.2.2.2.1 else 0) (keyA a) (keyA b) := fun a b => rfl
  refine ⟨fun a b => ?_, fun a b => by rw [e, e]; exact h.anti _ _, fun a b d => by rw [e, e, e]; exact h.trans _ _ _⟩
  rw [e]
  refine (h.zero (keyA a) (keyA b)).trans ?_
  obtain ⟨a1, a2, a3, a4, a5, a6⟩ := a; obtain ⟨b1, b2, b3, b4, b5, b6⟩ := b
  simp [keyA]
theorem ltOf_iff {a b : Atom} : Go.Proofs.ltOf compareA a b = true ↔ compareA a b < 0 := by simp [Go.Proofs.ltOf]
theorem swoA : Go.Sort.SWO (Go.Proofs.ltOf compareA) where
  irrefl x := by rw [Bool.eq_false_iff]; intro h; have := ltOf_iff.1 h; rw [(linA.zero x x).2 rfl] at this; omega
  trans x y z h1 h2 := ltOf_iff.2 (linA.trans _ _ _ (ltOf_iff.1 h1) (ltOf_iff.1 h2))
  ntrans x y z h1 h2 := by
    rw [Bool.eq_false_iff] at h1 h2 ⊢
    intro h3
    have h3 := ltOf_iff.1 h3
    have h1 : ¬ compareA x y < 0 := fun e => h1 (ltOf_iff.2 e)
    have h2 : ¬ compareA y z < 0 := fun e => h2 (ltOf_iff.2 e)
    by_cases e1 : compareA x y = 0
    · have := (linA.zero _ _).1 e1; subst this; exact h2 h3
    · have h4 : compareA y x < 0 := (linA.anti _ _).2 (by omega)
      exact h2 (linA.trans _ _ _ h4 h3)
theorem totA (x y : Atom) (h1 : Go.Proofs.ltOf compareA x y = false) (h2 : Go.Proofs.ltOf compareA y x = false) : x = y := by
  rw [Bool.eq_false_iff] at h1 h2
  have h1 : ¬ compareA x y < 0 := fun e => h1 (ltOf_iff.2 e)
  have h2 : ¬ compareA y x < 0 := fun e => h2 (ltOf_iff.2 e)
  refine (linA.zero _ _).1 ?_
  have h3 : ¬ 0 < compareA x y := fun e => h2 ((linA.anti y x).2 e)
  omega
end Go.Proofs.YtgpmjggdloldnaaGreatDoor

namespace Go.Proofs.YtgpmjggdloldnaaGreatDoor
open Go Go.Sx
set_option maxRecDepth 100000
theorem flatK_eq (l : List Atom) : Go.Sort.flatK Atom.enc 6 l.toArray = (l.flatMap Atom.enc).toArray := by
  have hlen : ∀ l : List Atom, (l.flatMap Atom.enc).length = l.length * 6 := fun l => by
    induction l with
    | nil => rfl
    | cons a l ih => rw [List.flatMap_cons, List.length_append, ih, List.length_cons]; show 6 + _ = _; omega
  apply Array.ext
  · simp [hlen]
  · intro i h1 h2
    simp only [Go.Sort.size_flatK, List.size_toArray] at h1
    have h3 := Go.Sort.get_flatK Atom.enc 6 l.toArray i (by simpa using h1)
    rw [getElem!_pos _ _ (by simpa using h1)] at h3
    rw [h3]
    have hq : i / 6 < l.length := by omega
    have hr : i % 6 < 6 := Nat.mod_lt _ (by omega)
    have hx := List.getElem?_eq_getElem hq
    have hx2 : l.toArray[i / 6]! = l[i / 6] := by rw [getElem!_pos _ _ (by simpa using hq)]; simp
    rw [hx2]
    have hu := List.getElem?_eq_getElem (show i % 6 < (Atom.enc l[i / 6]).length from hr)
    have := flat_at (enc := Atom.enc) (k := 6) (sp := []) (fun _ => rfl) hx _ _ hu
    rw [List.append_nil, show i / 6 * 6 + i % 6 = i by omega] at this
    rw [getElem!_pos (Atom.enc l[i / 6]) _ (show i % 6 < (Atom.enc l[i / 6]).length from hr)]
    have h4 := (List.getElem?_eq_some_iff.1 this).2
    simpa using h4.symm
def sortA (l : List Atom) : List Atom := l.mergeSort fun x y => !(ltOf compareA) y x
theorem sortA_length (l : List Atom) : (sortA l).length = l.length := by simp [sortA]
theorem cmpLays (blk off size : Nat) (w : World) : CmpLays Tryz.prog 42 #[] Atom.enc 6 compareA blk off size w := fun _m _os _dk _ x y =>
  SpecV.world (args := [.agg x.enc.toArray, .agg y.enc.toArray]) (fun h => compare_spec x y h) _
def cmpV : Value := .func (.func 42) #[] #[]
theorem SortA_spec (v : Value) (F : Frag) (l : List Atom) (h : Ghost) (hr : Row F v 37 6 l.length (l.flatMap Atom.enc)) (hl : l.length ≤ 1000000) :
    Sx.Spec Tryz.prog 41 [v, cmpV] h [F] fun u _ F' => u = .tuple #[] ∧ ∃ F1, F' = [F1] ∧ Row F1 v 37 6 (sortA l).length ((sortA l).flatMap Atom.enc) := by
  refine ⟨cl41, fun E R w A => ?_⟩
  rcases hr.2 with ⟨rfl, rfl, h0⟩ | ⟨b, cap, sp, rfl, rfl, hc, hlen⟩
  · have hl0 : l = [] := List.eq_nil_of_length_eq_zero h0
    subst hl0
    refine (AnyF.slices_SortFunc_none Tryz.sortA none 0 cmpV w).mono ?_
    rintro e w' ⟨rfl, rfl⟩
    exact ⟨_, h, [[]], rfl, Ghost.le.refl _, A, rfl, [], rfl, by simpa [sortA] using Row.nil 37 6⟩
  · have A' : Heap E h ((b, cells ((l.flatMap Atom.enc).map id ++ sp) 37) :: R.flatten) w := by rw [List.map_id]; exact A
    have hH : Go.Sort.HoldsK Atom.enc 6 w b 0 l.toArray := by
      rw [Go.Sort.HoldsK, flatK_eq]; exact A'.holds
    have hcon := AnyQ.slices_SortFunc_total Tryz.sortA 6 Tryz.isAgg37 Tryz.sizeOf37 Atom.enc (fun _ => rfl) one_atom compareA swoA 42 #[] b 0 cap l.toArray w
      (enters_of Tryz.func42 (by kernel_rfl) rfl) (cmpLays b 0 _ w) hH (A'.lt List.mem_cons_self) (by simp; omega) totA
    rw [List.size_toArray] at hcon
    refine hcon.mono ?_
    rintro e w' ⟨rfl, n, os, rfl⟩
    have hlen2 : ((sortA l).flatMap Atom.enc).length = (l.flatMap Atom.enc).length := by
      have : ∀ l : List Atom, (l.flatMap Atom.enc).length = l.length * 6 := fun l => by
        induction l with
        | nil => rfl
        | cons a l ih => rw [List.flatMap_cons, List.length_append, ih, List.length_cons]; show 6 + _ = _; omega
      rw [this, this, sortA_length]
    have hB := ((A'.ahead n).putRow hlen2).grow os
    rw [← flatK_eq, List.map_id] at hB
    refine ⟨_, h, [[(b, cells (((sortA l).flatMap Atom.enc) ++ sp) 37)]], rfl, Ghost.le.refl _, hB, rfl, _, rfl, ?_, .inr ⟨b, cap, sp, rfl, by rw [sortA_length], by rw [sortA_length]; exact hc, ?_⟩⟩
    · rw [hlen2, hr.1, sortA_length]
    · rw [List.length_append, hlen2, ← hlen, List.length_append]
end Go.Proofs.YtgpmjggdloldnaaGreatDoor

namespace Go.Proofs.YtgpmjggdloldnaaGreatDoor
open Go Go.Sx
set_option maxRecDepth 100000
def compactA : List Atom → List Atom
  | [] => []
  | [x] => [x]
  | x :: y :: r => if x = y then compactA (y :: r) else x :: compactA (y :: r)
theorem compactA_le : ∀ l : List Atom, (compactA l).length ≤ l.length
  | [] => Nat.le_refl _
  | [x] => Nat.le_refl _
  | x :: y :: r => by
    have := compactA_le (y :: r)
    unfold compactA; split <;> simp only [List.length_cons] at * <;> omega
theorem compactA_succ : ∀ {l : List Atom} {i : Nat} {x y : Atom}, l[i]? = some y → l[i + 1]? = some x → compactA (l.take (i + 2)) = if y = x then compactA (l.take (i + 1)) else compactA (l.take (i + 1)) ++ [x]
  | [], i, x, y, h, _ => by simp at h
  | [a], i, x, y, h, h2 => by simp at h2
  | a :: b :: l, 0, x, y, h, h2 => by
    simp at h h2; subst h h2
    simp only [List.take_succ_cons, List.take_zero, compactA]
    split
    · rename_i e; rw [e]
    · rfl
  | a :: b :: l, i + 1, x, y, h, h2 => by
    have ih := compactA_succ (l := b :: l) (i := i) (x := x) (y := y) (by simpa using h) (by simpa using h2)
    have e1 : (a :: b :: l).take (i + 1 + 2) = a :: b :: l.take (i + 1) := rfl
    have e2 : (a :: b :: l).take (i + 1 + 1) = a :: b :: l.take i := rfl
    have e3 : (b :: l).take (i + 2) = b :: l.take (i + 1) := rfl
    have e4 : (b :: l).take (i + 1) = b :: l.take i := rfl
    rw [e3, e4] at ih
    rw [e1, e2, compactA, compactA, ih]
    by_cases hab : a = b <;> by_cases hyx : y = x <;> simp [hab, hyx]
theorem wrap_sub1 {i : Nat} (h1 : 1 ≤ i) (h2 : i ≤ 9223372036854775807) : IntKind.i64.wrap ((i : Int) - 1) = ((i - 1 : Nat) : Int) := by
  have := IntWalk.i64_in ((i : Int) - 1) (by omega)
  rw [this]; omega
theorem take_set_succ {α : Type} {l : List α} {k : Nat} (hk : k < l.length) (x : α) : (l.set k x).take (k + 1) = l.take k ++ [x] := by
  rw [List.take_add_one, List.getElem?_set_self hk, List.take_set_of_le (Nat.le_refl _)]; rfl
theorem flat_len (l : List Atom) : (l.flatMap Atom.enc).length = l.length * 6 := by
  induction l with
  | nil => rfl
  | cons a l ih => rw [List.flatMap_cons, List.length_append, ih, List.length_cons]; show 6 + _ = _; omega
theorem flat_take (l : List Atom) (sp : List Value) {k : Nat} (hk : k ≤ l.length) : (l.flatMap Atom.enc ++ sp).take (k * 6) = (l.take k).flatMap Atom.enc := by
  have h1 : l = l.take k ++ l.drop k := (List.take_append_drop k l).symm
  conv => lhs; rw [h1]
  rw [List.flatMap_append, List.append_assoc, List.take_left']
  rw [flat_len, List.length_take, Nat.min_eq_left hk]
theorem flat_set (l : List Atom) (sp : List Value) {k : Nat} (hk : k < l.length) (x : Atom) : splice (l.flatMap Atom.enc ++ sp) (k * 6) x.enc = (l.set k x).flatMap Atom.enc ++ sp := by
  have hlen := flat_len l
  have h6 : x.enc.length = 6 := rfl
  rw [splice_eq _ _ _ (by rw [List.length_append, hlen, h6]; omega), flat_take l sp (by omega), h6]
  have h1 : l = l.take k ++ l[k] :: l.drop (k + 1) := by
    conv => lhs; rw [← List.take_append_drop k l, List.drop_eq_getElem_cons hk]
  have h2 : l.set k x = l.take k ++ x :: l.drop (k + 1) := by
    rw [List.set_eq_take_append_cons_drop, if_pos hk]
  have h3 : (l.flatMap Atom.enc ++ sp).drop (k * 6 + 6) = (l.drop (k + 1)).flatMap Atom.enc ++ sp := by
    conv => lhs; rw [h1]
    rw [List.flatMap_append, List.flatMap_cons, List.append_assoc, List.append_assoc, ← List.append_assoc ((l.take k).flatMap Atom.enc)]
    rw [List.drop_left']
    rw [List.length_append, flat_len, List.length_take, Nat.min_eq_left (by omega)]; rfl
  rw [h2, h3, List.flatMap_append, List.flatMap_cons]
  simp only [List.append_assoc]
theorem CompactAtom_spec (v : Value) (F : Frag) (l : List Atom) (h : Ghost) (hr : Row F v 37 6 l.length (l.flatMap Atom.enc)) (hl : l.length ≤ 1000000) :
    Sx.Spec Tryz.prog 43 [v] h [F] fun u _ F' => ∃ F1, F' = [F1] ∧ Row F1 u 37 6 (compactA l).length ((compactA l).flatMap Atom.enc) := by
  obtain ⟨ao, cap, rfl⟩ := Row.shape hr
  refine Spec.enter cl43 Tryz.func43 rfl Tryz.ntmps43 rfl fun E R => ?_
  refine Wc.seq ?_
  refine Wc.region ?_
  refine Wl.assign rfl rfl ?_
  refine Wl.nil ?_
  refine Wx.then_code ?_
  refine Wc.seq ?_
  refine Wc.seq ?_
  refine Wc.region ?_
  refine Wl.move rfl rfl ?_
  refine Wl.slLen Tryz.underlying22 rfl rfl ?_
  refine Wl.iLss rfl rfl rfl ?_
  refine Wl.nil ?_
  refine Wx.then_code ?_
  refine Wc.condS rfl (fun hc1 => ?_) (fun hc1 => ?_)
  refine Wc.seq ?_
  refine Wc.region ?_
  refine Wl.move rfl rfl ?_
  refine Wl.assign rfl rfl ?_
  refine Wl.nil ?_
  refine Wx.then_code ?_
  refine Wc.ret ?_
  refine Wx.then_ret ?_
  · have hn : l.length < 2 := by have := of_decide_eq_true hc1; omega
    have hc : compactA l = l := by
      match l, hn with
      | [], _ => rfl
      | [x], _ => rfl
    refine Fin.keep (F' := [F]) [] .ret (.inl rfl) (run_tmp rfl rfl) (Ghost.le.refl _) fun _ _ => ⟨F, rfl, ?_⟩
    rw [hc]; exact hr
  refine Wc.skip ?_
  refine Wx.then_code ?_
  refine Wc.seq ?_
  refine Wc.seq ?_
  refine Wc.region ?_
  refine Wl.assign rfl rfl ?_
  refine Wl.nil ?_
  refine Wx.then_code ?_
  refine Wc.block ?_
  have hn : 2 ≤ l.length := by have := of_decide_eq_false hc1; omega
  have hb : ∃ b sp, F = [(b, cells (l.flatMap Atom.enc ++ sp) 37)] ∧ ao = some ⟨b, 0, none⟩ ∧ l.length ≤ cap ∧ (l.flatMap Atom.enc ++ sp).length = cap * 6 := by
    rcases hr.2 with ⟨_, _, h0⟩ | ⟨b, cap', sp, h1, h2, h3, h4⟩
    · omega
    · cases h2; exact ⟨b, sp, h1, rfl, h3, h4⟩
  obtain ⟨b, sp, hF, ha, hcap, hlen⟩ := hb
  subst hF ha
  refine Wc.loop (ι := Nat) (fun k => 1 ≤ k ∧ k ≤ l.length ∧ compactA (l.take k) = l.take k) (fun k => [(0, .slice (some ⟨b, 0, none⟩) l.length cap), (3, .int .i64 k)]) (fun _ => _) (fun _ => _) (fun k => l.length - k) 1
    ⟨Nat.le_refl _, by omega, by
      have h0 := List.getElem?_eq_getElem (show 0 < l.length by omega)
      rw [List.take_one, List.head?_eq_getElem?, h0]; rfl⟩ (.cons rfl (.cons rfl (.nil _))) rfl rfl fun k ⟨hk1, hk, hall⟩ => ?_
  refine Wc.seq ?_
  refine Wc.seq ?_
  refine Wc.region ?_
  refine Wl.move rfl rfl ?_
  refine Wl.move rfl rfl ?_
  refine Wl.slLen Tryz.underlying22 rfl rfl ?_
  refine Wl.iLss rfl rfl rfl ?_
  refine Wl.nil ?_
  refine Wx.then_code ?_
  refine Wc.condS rfl (fun hc2 => ?_) (fun hc2 => ?_)
  refine Wc.skip ?_
  refine Wx.then_code ?_
  refine Wc.seq ?_
  refine Wc.block ?_
  refine Wc.seq ?_
  have hlt : k < l.length := by have := of_decide_eq_true hc2; omega
  have hx := List.getElem?_eq_getElem hlt
  have hy := List.getElem?_eq_getElem (show k - 1 < l.length by omega)
  have hcx := flat_at (enc := Atom.enc) (k := 6) (sp := sp) (fun _ => rfl) hx
  have hcy := flat_at (enc := Atom.enc) (k := 6) (sp := sp) (fun _ => rfl) hy
  apply Wc.draw (m := 10) (D := [[], [], [0, 1], [2], [], [], [5], [4, 6], [7], [3, 8]]) (Ys := [.det _, .det _, .det (.pointer (some ⟨b, 0 + k * 6, none⟩)), .det (.agg l[k].enc.toArray), .det _, .det _, .det (.int .i64 ((k - 1 : Nat) : Int)), .det (.pointer (some ⟨b, 0 + (k - 1) * 6, none⟩)), .det (.agg (l[k - 1]'(by omega)).enc.toArray), .det (.bool (decide (l[k] = l[k - 1]'(by omega))))])
  · exact follows
  · kernel_rfl
  · rfl
  · rfl
  · rfl
  · skip
    apply Locs.mk
    · intro env K' h' S' hs hd hl hY
      refine Wl.move (hs _ _ rfl) rfl ?_
      refine Wl.nil ?_
      exact Wx.gives0 _ (Ghost.le.refl _) ⟨rfl, rfl⟩ (Sub.refl _)
    apply Locs.mk
    · intro env K' h' S' hs hd hl hY
      refine Wl.move (hs _ _ rfl) rfl ?_
      refine Wl.nil ?_
      exact Wx.gives0 _ (Ghost.le.refl _) ⟨rfl, rfl⟩ (Sub.refl _)
    apply Locs.mk
    · intro env K' h' S' hs hd hl hY
      refine Wl.elem sl22 (detL (hd 0 (by decide)) (hY 0 (by decide))) (detL (hd 1 (by decide)) (hY 1 (by decide))) rfl hlt rfl ?_
      refine Wl.nil ?_
      exact Wx.gives0 _ (Ghost.le.refl _) ⟨rfl, rfl⟩ (Sub.refl _)
    apply Locs.mk
    · intro env K' h' S' hs hd hl hY
      refine Wl.loadOAt ty37 (detL (hd 2 (by decide)) (hY 2 (by decide))) (Has.right (by repeat (first | exact .here | apply Has.there))) rfl (fun j u hj => by rw [Nat.zero_add]; exact hcx j u hj) rfl ?_
      refine Wl.nil ?_
      exact Wx.gives0 _ (Ghost.le.refl _) ⟨rfl, rfl⟩ (Sub.refl _)
    apply Locs.mk
    · intro env K' h' S' hs hd hl hY
      refine Wl.move (hs _ _ rfl) rfl ?_
      refine Wl.nil ?_
      exact Wx.gives0 _ (Ghost.le.refl _) ⟨rfl, rfl⟩ (Sub.refl _)
    apply Locs.mk
    · intro env K' h' S' hs hd hl hY
      refine Wl.move (hs _ _ rfl) rfl ?_
      refine Wl.nil ?_
      exact Wx.gives0 _ (Ghost.le.refl _) ⟨rfl, rfl⟩ (Sub.refl _)
    apply Locs.mk
    · intro env K' h' S' hs hd hl hY
      refine Wl.iSub (detL (hd 5 (by decide)) (hY 5 (by decide))) rfl rfl (wrap_sub1 hk1 (by omega)) ?_
      refine Wl.nil ?_
      exact Wx.gives0 _ (Ghost.le.refl _) ⟨rfl, rfl⟩ (Sub.refl _)
    apply Locs.mk
    · intro env K' h' S' hs hd hl hY
      refine Wl.elem (j := k - 1) sl22 (detL (hd 4 (by decide)) (hY 4 (by decide))) (detL (hd 6 (by decide)) (hY 6 (by decide))) rfl (by omega) rfl ?_
      refine Wl.nil ?_
      exact Wx.gives0 _ (Ghost.le.refl _) ⟨rfl, rfl⟩ (Sub.refl _)
    apply Locs.mk
    · intro env K' h' S' hs hd hl hY
      refine Wl.loadOAt ty37 (detL (hd 7 (by decide)) (hY 7 (by decide))) (Has.right (by repeat (first | exact .here | apply Has.there))) rfl (fun j u hj => by rw [Nat.zero_add]; exact hcy j u hj) rfl ?_
      refine Wl.nil ?_
      exact Wx.gives0 _ (Ghost.le.refl _) ⟨rfl, rfl⟩ (Sub.refl _)
    apply Locs.mk
    · intro env K' h' S' hs hd hl hY
      refine Wl.aEql l[k] (l[k - 1]'(by omega)) eqAtom (detL (hd 3 (by decide)) (hY 3 (by decide))) (detL (hd 8 (by decide)) (hY 8 (by decide))) rfl ?_
      refine Wl.nil ?_
      exact Wx.gives0 _ (Ghost.le.refl _) ⟨rfl, rfl⟩ (Sub.refl _)
    trivial
  · exact ⟨trivial, trivial, trivial, trivial, trivial, trivial, trivial, trivial, trivial, trivial, trivial⟩
  intro h' hl'
  show Wl _ _ _ [] _ ((25, _) :: (24, _) :: (23, _) :: (22, _) :: (21, _) :: (20, _) :: (19, _) :: (18, _) :: (17, _) :: (16, _) :: _) _ _ _
  refine Wl.nil ?_
  refine Wx.then_code ?_
  refine Wc.condS rfl (fun hc3 => ?_) (fun hc3 => ?_)
  refine Wc.seq ?_
  refine Wc.region ?_
  refine Wl.move rfl rfl ?_
  refine Wl.move rfl rfl ?_
  refine Wl.weak hl' ?_
  refine Wl.sliceLo (lo := k) sl22 rfl rfl rfl hk rfl ?_
  rw [show (if cap = k then some (⟨b, 0, none⟩ : Addr) else (some (⟨b, 0, none⟩ : Addr)).map (·.add (k * 6))) = some ⟨b, k * 6, none⟩ by rw [if_neg (by omega)]; simp only [Option.map_some, Addr.add_eq, Nat.zero_add]]
  have heq : l[k] = l[k - 1]'(by omega) := of_decide_eq_true hc3
  refine Wl.assign rfl rfl ?_
  refine Wl.nil ?_
  refine Wx.then_code ?_
  refine Wc.seq ?_
  refine Wc.seq ?_
  refine Wc.region ?_
  refine Wl.assign rfl rfl ?_
  refine Wl.nil ?_
  refine Wx.then_code ?_
  refine Wc.block ?_
  refine Wc.loop (ι := (Nat × Nat) × List Atom) (fun x => 1 ≤ x.1.2 ∧ x.1.2 ≤ l.length - k ∧ x.1.1 ≤ k + x.1.2 - 1 ∧ x.2.length = l.length ∧ x.2.take x.1.1 = compactA (l.take (k + x.1.2)) ∧ x.2.drop (k + x.1.2 - 1) = l.drop (k + x.1.2 - 1))
    (fun x => [(0, .slice (some ⟨b, 0, none⟩) l.length cap), (3, .int .i64 x.1.1), (4, .slice (some ⟨b, k * 6, none⟩) (l.length - k) (cap - k)), (5, .int .i64 x.1.2)]) (fun _ => h) (fun x => [(b, cells (x.2.flatMap Atom.enc ++ sp) 37)] :: R) (fun x => l.length - k - x.1.2) ((k, 1), l)
    ⟨Nat.le_refl _, by dsimp only; omega, by dsimp only; omega, rfl, by
      dsimp only
      have := compactA_succ (i := k - 1) (x := l[k]) hy (by rw [show k - 1 + 1 = k by omega]; exact hx)
      rw [show k - 1 + 2 = k + 1 by omega, show k - 1 + 1 = k by omega, if_pos heq.symm, hall] at this
      exact this.symm, rfl⟩ (.cons rfl (.cons rfl (.cons rfl (.cons rfl (.nil _))))) rfl rfl fun ⟨⟨k', k2⟩, m⟩ ⟨h21, h2n, hk', hml, htake, hdrop⟩ => ?_
  dsimp only at h21 h2n hk' hml htake hdrop
  refine Wc.seq ?_
  refine Wc.seq ?_
  refine Wc.region ?_
  refine Wl.move rfl rfl ?_
  refine Wl.move rfl rfl ?_
  refine Wl.slLen Tryz.underlying22 rfl rfl ?_
  refine Wl.iLss rfl rfl rfl ?_
  refine Wl.nil ?_
  refine Wx.then_code ?_
  refine Wc.condS rfl (fun hc4 => ?_) (fun hc4 => ?_)
  refine Wc.skip ?_
  refine Wx.then_code ?_
  refine Wc.seq ?_
  refine Wc.block ?_
  refine Wc.seq ?_
  have hlt2 : k2 < l.length - k := by have := of_decide_eq_true hc4; dsimp only at this; omega
  have hx1 := List.getElem?_eq_getElem (show k + k2 < l.length by omega)
  have hy1 := List.getElem?_eq_getElem (show k + k2 - 1 < l.length by omega)
  have hget : ∀ i, k + k2 - 1 ≤ i → m[i]? = l[i]? := fun i hi => by
    have := congrArg (·[i - (k + k2 - 1)]?) hdrop
    simp only [List.getElem?_drop] at this
    rwa [show k + k2 - 1 + (i - (k + k2 - 1)) = i by omega] at this
  have hmx : m[k + k2]? = some (l[k + k2]'(by omega)) := by rw [hget _ (by omega)]; exact hx1
  have hmy : m[k + k2 - 1]? = some (l[k + k2 - 1]'(by omega)) := by rw [hget _ (by omega)]; exact hy1
  have hcx := flat_at (enc := Atom.enc) (k := 6) (sp := sp) (fun _ => rfl) hmx
  have hcy := flat_at (enc := Atom.enc) (k := 6) (sp := sp) (fun _ => rfl) hmy
  have hstep := compactA_succ (i := k + k2 - 1) hy1 (by rw [show k + k2 - 1 + 1 = k + k2 by omega]; exact hx1)
  rw [show k + k2 - 1 + 2 = k + (k2 + 1) by omega, show k + k2 - 1 + 1 = k + k2 by omega] at hstep
  apply Wc.draw (m := 10) (D := [[], [], [0, 1], [2], [], [], [5], [4, 6], [7], [3, 8]]) (Ys := [.det _, .det _, .det (.pointer (some ⟨b, k * 6 + k2 * 6, none⟩)), .det (.agg (l[k + k2]'(by omega)).enc.toArray), .det _, .det _, .det (.int .i64 ((k2 - 1 : Nat) : Int)), .det (.pointer (some ⟨b, k * 6 + (k2 - 1) * 6, none⟩)), .det (.agg (l[k + k2 - 1]'(by omega)).enc.toArray), .det (.bool (!(decide (l[k + k2]'(by omega) = l[k + k2 - 1]'(by omega)))))])
  · exact follows
  · kernel_rfl
  · rfl
  · rfl
  · rfl
  · skip
    apply Locs.mk
    · intro env K' h' S' hs hd hl hY
      refine Wl.move (hs _ _ rfl) rfl ?_
      refine Wl.nil ?_
      exact Wx.gives0 _ (Ghost.le.refl _) ⟨rfl, rfl⟩ (Sub.refl _)
    apply Locs.mk
    · intro env K' h' S' hs hd hl hY
      refine Wl.move (hs _ _ rfl) rfl ?_
      refine Wl.nil ?_
      exact Wx.gives0 _ (Ghost.le.refl _) ⟨rfl, rfl⟩ (Sub.refl _)
    apply Locs.mk
    · intro env K' h' S' hs hd hl hY
      refine Wl.elem (j := k2) sl22 (detL (hd 0 (by decide)) (hY 0 (by decide))) (detL (hd 1 (by decide)) (hY 1 (by decide))) rfl hlt2 rfl ?_
      refine Wl.nil ?_
      exact Wx.gives0 _ (Ghost.le.refl _) ⟨rfl, rfl⟩ (Sub.refl _)
    apply Locs.mk
    · intro env K' h' S' hs hd hl hY
      refine Wl.loadOAt ty37 (detL (hd 2 (by decide)) (hY 2 (by decide))) (Has.right (by repeat (first | exact .here | apply Has.there))) rfl (fun j u hj => by rw [show k * 6 + k2 * 6 + j = (k + k2) * 6 + j by omega]; exact hcx j u hj) rfl ?_
      refine Wl.nil ?_
      exact Wx.gives0 _ (Ghost.le.refl _) ⟨rfl, rfl⟩ (Sub.refl _)
    apply Locs.mk
    · intro env K' h' S' hs hd hl hY
      refine Wl.move (hs _ _ rfl) rfl ?_
      refine Wl.nil ?_
      exact Wx.gives0 _ (Ghost.le.refl _) ⟨rfl, rfl⟩ (Sub.refl _)
    apply Locs.mk
    · intro env K' h' S' hs hd hl hY
      refine Wl.move (hs _ _ rfl) rfl ?_
      refine Wl.nil ?_
      exact Wx.gives0 _ (Ghost.le.refl _) ⟨rfl, rfl⟩ (Sub.refl _)
    apply Locs.mk
    · intro env K' h' S' hs hd hl hY
      refine Wl.iSub (detL (hd 5 (by decide)) (hY 5 (by decide))) rfl rfl (wrap_sub1 h21 (by omega)) ?_
      refine Wl.nil ?_
      exact Wx.gives0 _ (Ghost.le.refl _) ⟨rfl, rfl⟩ (Sub.refl _)
    apply Locs.mk
    · intro env K' h' S' hs hd hl hY
      refine Wl.elem (j := k2 - 1) sl22 (detL (hd 4 (by decide)) (hY 4 (by decide))) (detL (hd 6 (by decide)) (hY 6 (by decide))) rfl (by omega) rfl ?_
      refine Wl.nil ?_
      exact Wx.gives0 _ (Ghost.le.refl _) ⟨rfl, rfl⟩ (Sub.refl _)
    apply Locs.mk
    · intro env K' h' S' hs hd hl hY
      refine Wl.loadOAt ty37 (detL (hd 7 (by decide)) (hY 7 (by decide))) (Has.right (by repeat (first | exact .here | apply Has.there))) rfl (fun j u hj => by rw [show k * 6 + (k2 - 1) * 6 + j = (k + k2 - 1) * 6 + j by omega]; exact hcy j u hj) rfl ?_
      refine Wl.nil ?_
      exact Wx.gives0 _ (Ghost.le.refl _) ⟨rfl, rfl⟩ (Sub.refl _)
    apply Locs.mk
    · intro env K' h' S' hs hd hl hY
      refine Wl.aNeq (l[k + k2]'(by omega)) (l[k + k2 - 1]'(by omega)) eqAtom (detL (hd 3 (by decide)) (hY 3 (by decide))) (detL (hd 8 (by decide)) (hY 8 (by decide))) rfl ?_
      refine Wl.nil ?_
      exact Wx.gives0 _ (Ghost.le.refl _) ⟨rfl, rfl⟩ (Sub.refl _)
    trivial
  · exact ⟨trivial, trivial, trivial, trivial, trivial, trivial, trivial, trivial, trivial, trivial, trivial⟩
  intro h' hl'
  show Wl _ _ _ [] _ ((44, _) :: (43, _) :: (42, _) :: (41, _) :: (40, _) :: (39, _) :: (38, _) :: (37, _) :: (36, _) :: (35, _) :: _) _ _ _
  refine Wl.nil ?_
  refine Wx.then_code ?_
  refine Wc.condS rfl (fun hc5 => ?_) (fun hc5 => ?_)
  refine Wc.seq ?_
  refine Wc.region ?_
  refine Wl.move rfl rfl ?_
  refine Wl.move rfl rfl ?_
  refine Wl.move rfl rfl ?_
  refine Wl.move rfl rfl ?_
  · refine Wl.weak hl' ?_
    have hne : ¬ l[k + k2 - 1]'(by omega) = l[k + k2]'(by omega) := fun e => by rw [e] at hc5; simp at hc5
    rw [if_neg hne] at hstep
    refine Wl.elem (j := k2) sl22 rfl rfl rfl hlt2 rfl ?_
    refine Wl.loadOAt (vs := (l[k + k2]'(by omega)).enc) ty37 rfl .here rfl (fun j u hj => by rw [show k * 6 + k2 * 6 + j = (k + k2) * 6 + j by omega]; exact hcx j u hj) rfl ?_
    refine Wl.elem (j := k') sl22 rfl rfl rfl (by omega) rfl ?_
    refine Wl.store (vs := (l[k + k2]'(by omega)).enc) ty37 rfl rfl rfl (one_atom _) rfl (Nat.ble_eq_true_of_le ?_) (show splice (m.flatMap Atom.enc ++ sp) (0 + k' * 6) (l[k + k2]'(by omega)).enc = (m.set k' (l[k + k2]'(by omega))).flatMap Atom.enc ++ sp by rw [Nat.zero_add]; exact flat_set m sp (by omega) _) .here ?_
    · rw [List.length_append, flat_len]; show 0 + k' * 6 + 6 ≤ _; omega
    refine Wl.nil ?_
    refine Wx.then_code ?_
    refine Wc.region ?_
    refine Wl.move rfl rfl ?_
    refine Wl.inc rfl rfl (by first | omega | (dsimp only; omega)) ?_
    refine Wl.assign rfl rfl ?_
    refine Wl.nil ?_
    refine Wx.block_normal ?_
    refine Wx.then_code ?_
    refine Wc.region ?_
    refine Wl.move rfl rfl ?_
    refine Wl.inc rfl rfl (by first | omega | (dsimp only; omega)) ?_
    refine Wl.assign rfl rfl ?_
    refine Wl.nil ?_
    refine Wx.again ((k' + 1, k2 + 1), m.set k' (l[k + k2]'(by omega))) ⟨Nat.le_add_left 1 k2, hlt2, ?_, ?_, ?_, ?_⟩ (show l.length - k - (k2 + 1) < l.length - k - k2 by omega) (.cons rfl (.cons rfl (.cons rfl (.cons rfl (.nil _))))) rfl .refl
    · dsimp only; omega
    · dsimp only; rw [List.length_set]; exact hml
    · dsimp only; rw [take_set_succ (by omega), htake, hstep]
    · dsimp only
      rw [show k + (k2 + 1) - 1 = k + k2 by omega, List.drop_set_of_lt (by omega)]
      have := congrArg (List.drop 1) hdrop
      simpa [List.drop_drop, show k + k2 - 1 + 1 = k + k2 by omega] using this
  refine Wc.skip ?_
  refine Wx.block_normal ?_
  refine Wx.then_code ?_
  refine Wc.region ?_
  refine Wl.move rfl rfl ?_
  refine Wl.inc rfl rfl (by first | assumption | omega | (have hx := of_decide_eq_true hc5; omega) | (have hx := of_decide_eq_true hc4; omega) | (have hx := of_decide_eq_true hc3; omega) | (have hx := of_decide_eq_true hc2; omega)) ?_
  refine Wl.assign rfl rfl ?_
  refine Wl.nil ?_
  · have he : l[k + k2 - 1]'(by omega) = l[k + k2]'(by omega) := by
      have := hc5; simp only [Bool.not_eq_false', decide_eq_true_eq] at this; exact this.symm
    rw [if_pos he] at hstep
    refine Wx.weak hl' (Wx.again ((k', k2 + 1), m) ⟨Nat.le_add_left 1 k2, hlt2, ?_, hml, ?_, ?_⟩ (show l.length - k - (k2 + 1) < l.length - k - k2 by omega) (.cons rfl (.cons rfl (.cons rfl (.cons rfl (.nil _))))) rfl .refl)
    · dsimp only; omega
    · dsimp only; rw [htake, hstep]
    · dsimp only
      rw [show k + (k2 + 1) - 1 = k + k2 by omega]
      have := congrArg (List.drop 1) hdrop
      simpa [List.drop_drop, show k + k2 - 1 + 1 = k + k2 by omega] using this
  refine Wc.exit ?_
  refine Wx.then_exit ?_
  refine Wx.then_exit ?_
  refine Wx.block_exit ?_
  refine Wx.then_code ?_
  refine Wc.seq ?_
  refine Wc.region ?_
  refine Wl.move rfl rfl ?_
  refine Wl.move rfl rfl ?_
  have hk2 : k2 = l.length - k := by have := of_decide_eq_false hc4; dsimp only at this; omega
  rw [hk2, show k + (l.length - k) = l.length by omega, List.take_length] at htake
  have hk3 : k' < l.length := by omega
  refine Wl.sliceLo (lo := k') sl22 rfl rfl rfl (by omega) rfl ?_
  rw [show (if cap = k' then some (⟨b, 0, none⟩ : Addr) else (some (⟨b, 0, none⟩ : Addr)).map (·.add (k' * 6))) = some ⟨b, k' * 6, none⟩ by rw [if_neg (by omega)]; simp only [Option.map_some, Addr.add_eq, Nat.zero_add]]
  refine Wl.clear [] _ rfl sl22 ty37.zero rfl rfl (zeroCells_one _ (by decide) rfl) ?_ fun l' e1 e2 => ?_
  · rw [List.length_append, flat_len, hml]; omega
  refine Wl.nil ?_
  refine Wx.then_code ?_
  refine Wc.seq ?_
  refine Wc.region ?_
  refine Wl.move rfl rfl ?_
  refine Wl.move rfl rfl ?_
  refine Wl.sliceHi sl22 rfl rfl rfl (by omega) rfl ?_
  refine Wl.assign rfl rfl ?_
  refine Wl.nil ?_
  refine Wx.then_code ?_
  refine Wc.ret ?_
  refine Wx.block_ret ?_
  refine Wx.then_ret ?_
  refine Wx.then_ret ?_
  refine Wx.block_ret ?_
  refine Wx.then_ret ?_
  · have hl3 : l' = (compactA l).flatMap Atom.enc ++ l'.drop (k' * 6) := by
      rw [← htake, ← flat_take m sp (by omega), ← e2, List.take_append_drop]
    have hkl : (compactA l).length = k' := by rw [← htake, List.length_take]; omega
    refine Fin.keep (F' := [[(b, cells l' 37)]]) [] .ret (.inl rfl) (run_tmp rfl rfl) (Ghost.le.refl _) fun _ _ => ⟨_, rfl, ?_⟩
    refine ⟨flat_len _, .inr ⟨b, cap, l'.drop (k' * 6), by rw [← hl3], by rw [hkl], by omega, ?_⟩⟩
    rw [← hl3, e1, List.length_append, flat_len, hml, ← hlen, List.length_append, flat_len]
  refine Wc.skip ?_
  refine Wx.block_normal ?_
  refine Wx.then_code ?_
  refine Wc.region ?_
  refine Wl.move rfl rfl ?_
  refine Wl.inc rfl rfl (by first | assumption | omega | (have hx := of_decide_eq_true hc3; omega) | (have hx := of_decide_eq_true hc2; omega) | (have hx := of_decide_eq_true hc1; omega)) ?_
  refine Wl.assign rfl rfl ?_
  refine Wl.nil ?_
  · refine Wx.weak hl' (Wx.again (k + 1) ⟨by omega, hlt, ?_⟩ (by omega) (.cons rfl (.cons rfl (.nil _))) rfl .refl)
    have hne : ¬ l[k - 1]'(by omega) = l[k] := fun e => (of_decide_eq_false hc3) e.symm
    have := compactA_succ (i := k - 1) (x := l[k]) hy (by rw [show k - 1 + 1 = k by omega]; exact hx)
    rw [show k - 1 + 2 = k + 1 by omega, show k - 1 + 1 = k by omega, if_neg hne, hall] at this
    rw [this, List.take_add_one, hx]; rfl
  refine Wc.exit ?_
  refine Wx.then_exit ?_
  refine Wx.then_exit ?_
  refine Wx.block_exit ?_
  refine Wx.then_code ?_
  refine Wc.seq ?_
  refine Wc.region ?_
  refine Wl.move rfl rfl ?_
  refine Wl.assign rfl rfl ?_
  refine Wl.nil ?_
  refine Wx.then_code ?_
  refine Wc.ret ?_
  have hk2 : k = l.length := by have := of_decide_eq_false hc2; omega
  rw [hk2, List.take_length] at hall
  refine Fin.keep (F' := [_]) [] .ret (.inl rfl) (run_tmp rfl rfl) (Ghost.le.refl _) fun _ _ => ⟨_, rfl, ?_⟩
  rw [hall]; exact hr
end Go.Proofs.YtgpmjggdloldnaaGreatDoor
