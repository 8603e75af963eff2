/-
  Contracts and plain lemmas, joined: T41, T42, T43, T44
-/
import Derived.Test.YtgpmjggdloldnaaGreatDoorOpens
import Derived.Test.YtgpmjggdloldnaaGreatDoorLogicC
namespace Go.Proofs.YtgpmjggdloldnaaGreatDoor
open Go Go.Sx
set_option maxRecDepth 100000
/-! ### the check of a query -/
structure QueryOk (ts : List ByteArray) (l : List (List Atom)) : Prop where
  low : 1 ≤ l.length
  high : l.length ≤ 4
  parts : ∀ p ∈ l, CheckOk ts p
theorem queryE_iff {ts : List ByteArray} {l : List (List Atom)} : queryE ts l = 0 ↔ QueryOk ts l := by
  have htold : ts.all variableB = true → ((List.range ts.length).all (toldOk ts l) = true ↔ ∀ i, i < ts.length → Lib.containsS (ts.take i) (ts.getD i ByteArray.empty) = false ∧ ∀ p ∈ l, p.any (hasT (ts.getD i ByteArray.empty)) = true) := fun hv => by
    have hl : ∀ i, i < ts.length → looksB (ts.getD i ByteArray.empty) = true := fun i hi => by
      rw [List.getD_eq_getElem?_getD, List.getElem?_eq_getElem hi]
      exact looks_of_variable (List.all_eq_true.1 hv _ (List.getElem_mem hi))
    have key : ∀ i, i < ts.length → (toldOk ts l i = true ↔ Lib.containsS (ts.take i) (ts.getD i ByteArray.empty) = false ∧ ∀ p ∈ l, p.any (hasT (ts.getD i ByteArray.empty)) = true) := fun i hi => by
      unfold toldOk
      rw [Bool.and_eq_true, Bool.not_eq_true', List.all_eq_true]
      constructor
      · rintro ⟨h1, h2⟩; exact ⟨h1, fun p hp => (has_vars (hl i hi)).1 ((Lib.containsS_iff _ _).1 (h2 p hp))⟩
      · rintro ⟨h1, h2⟩; exact ⟨h1, fun p hp => (Lib.containsS_iff _ _).2 ((has_vars (hl i hi)).2 (h2 p hp))⟩
    rw [List.all_eq_true]
    exact ⟨fun h i hi => (key i hi).1 (h i (List.mem_range.2 hi)), fun h i hi => (key i (List.mem_range.1 hi)).2 (h i (List.mem_range.1 hi))⟩
  have hshape : shapeE ts l = 0 ↔ ts.length ≤ 3 ∧ (1 ≤ l.length ∧ l.length ≤ 4) ∧ ∀ p ∈ l, 1 ≤ p.length ∧ p.length ≤ 12 := by
    unfold shapeE
    by_cases h1 : ts.length ≤ 3 ∧ (1 ≤ l.length ∧ l.length ≤ 4)
    · have e : shapeBad ts l = false := by unfold shapeBad; simp; omega
      rw [e, if_neg (by simp)]
      have hall : l.all (!partBad ·) = true ↔ ∀ p ∈ l, 1 ≤ p.length ∧ p.length ≤ 12 := by
        rw [List.all_eq_true]
        refine ⟨fun h p hp => ?_, fun h p hp => ?_⟩
        · have := h p hp; simp [partBad] at this; omega
        · have := h p hp; simp [partBad]; omega
      by_cases h2 : l.all (!partBad ·) = true
      · rw [if_pos h2]; exact ⟨fun _ => ⟨h1.1, h1.2, hall.1 h2⟩, fun _ => rfl⟩
      · rw [if_neg h2]; exact ⟨fun h => absurd h (by decide), fun h => absurd (hall.2 h.2.2) h2⟩
    · have e : shapeBad ts l = true := by unfold shapeBad; simp; omega
      rw [e, if_pos rfl]
      exact ⟨fun h => absurd h (by decide), fun h => absurd ⟨h.1, h.2.1⟩ h1⟩
  have htE : toldE ts l = 0 ↔ ts.all variableB = true ∧ (List.range ts.length).all (toldOk ts l) = true := by
    unfold toldE
    by_cases h1 : ts.all variableB = true
    · rw [if_pos h1]
      by_cases h2 : (List.range ts.length).all (toldOk ts l) = true
      · rw [if_pos h2]; simp [h1, h2]
      · rw [if_neg h2]; simp [h1, h2]
    · rw [if_neg h1]; simp [h1]
  have hmen : ∀ p : List Atom, mentionB p ts = true ↔ ∀ i, i < ts.length → p.any (hasT (ts.getD i ByteArray.empty)) = true := fun p => by
    unfold mentionB
    rw [List.all_eq_true]
    constructor
    · intro h i hi
      rw [List.getD_eq_getElem?_getD, List.getElem?_eq_getElem hi, Option.getD_some]
      exact h _ (List.getElem_mem hi)
    · intro h t ht
      obtain ⟨i, hi, e⟩ := List.mem_iff_getElem.1 ht
      have := h i hi
      rw [List.getD_eq_getElem?_getD, List.getElem?_eq_getElem hi, Option.getD_some, e] at this
      exact this
  constructor
  · intro h
    have ha := queryE_atoms (ts := ts) (l := l) h
    have hf : l.flatten.find? (fun a => atomE a != 0) = none := by
      rw [List.find?_eq_none]; intro x hx
      obtain ⟨p, hp, hx⟩ := List.mem_flatten.1 hx
      simp [ha p hp x hx]
    unfold queryE at h
    by_cases hs : shapeE ts l = 0
    · rw [if_neg (by simp [hs]), hf] at h
      simp only at h
      by_cases ht : toldE ts l = 0
      · rw [if_neg (by simp [ht])] at h
        have hv : l.all varsFew = true := Classical.byContradiction fun hv => by rw [if_neg hv] at h; cases h
        obtain ⟨h1, h2, h3⟩ := hshape.1 hs
        obtain ⟨h4, h5⟩ := htE.1 ht
        have h6 := (htold h4).1 h5
        refine ⟨h2.1, h2.2, fun p hp => ⟨h1, (h3 p hp).1, (h3 p hp).2, ha p hp, h4, fun i hi => (h6 i hi).1, (hmen p).2 fun i hi => (h6 i hi).2 p hp, ?_⟩⟩
        simpa [varsFew] using List.all_eq_true.1 hv p hp
      · rw [if_pos ht] at h; exact absurd h ht
    · rw [if_pos hs] at h; exact absurd h hs
  · rintro ⟨h1, h2, h3⟩
    obtain ⟨p0, hp0⟩ := List.exists_mem_of_length_pos (show 0 < l.length by omega)
    have c0 := h3 p0 hp0
    have hf : l.flatten.find? (fun a => atomE a != 0) = none := by
      rw [List.find?_eq_none]; intro x hx
      obtain ⟨p, hp, hx⟩ := List.mem_flatten.1 hx
      simp [(h3 p hp).atoms x hx]
    have hs := hshape.2 ⟨c0.few, ⟨h1, h2⟩, fun p hp => ⟨(h3 p hp).low, (h3 p hp).high⟩⟩
    have ht := htE.2 ⟨c0.vars, (htold c0.vars).2 fun i hi => ⟨c0.once i hi, fun p hp => (hmen p).1 (h3 p hp).men i hi⟩⟩
    unfold queryE
    rw [if_neg (by simp [hs]), hf]
    simp only
    rw [if_neg (by simp [ht]), if_pos]
    rw [List.all_eq_true]; intro p hp
    simpa [varsFew] using (h3 p hp).eight
theorem query_part {ts : List ByteArray} {l : List (List Atom)} (h : queryE ts l = 0) {p : List Atom} (hp : p ∈ l) : checkE ts p = 0 := checkE_iff.2 ((queryE_iff.1 h).parts p hp)
theorem query_sub {ts : List ByteArray} {l m : List (List Atom)} (h : queryE ts l = 0) (hs : m.Sublist l) (hne : m ≠ []) : queryE ts m = 0 := by
  rw [queryE_iff] at *
  exact ⟨List.length_pos_iff.2 hne, Nat.le_trans hs.length_le h.high, fun p hp => h.parts p (hs.subset hp)⟩
/-! ### shrinking -/
noncomputable def withinB (ts : List ByteArray) (p : List Atom) (l : List (List Atom)) : Bool := l.any fun x => homB ts p x
noncomputable def spareP (ts : List ByteArray) (rest : List (List Atom)) (p : List Atom) : Bool := withinB ts p rest
noncomputable def shrinkL (ts : List ByteArray) (l : List (List Atom)) : List (List Atom) := pruneL (spareP ts) l
theorem spareP_iff {ts : List ByteArray} {r : List (List Atom)} {p : List Atom} : spareP ts r p = true ↔ ∃ y ∈ r, Hom ts p y := by
  unfold spareP withinB
  rw [List.any_eq_true]
  simp only [homB_iff]
structure Shrunk (ts : List ByteArray) (i : Nat) (l m : List (List Atom)) : Prop where
  form : ∃ m', m = m' ++ l.drop i ∧ m'.Sublist (l.take i) ∧ ∀ k x, m'[k]? = some x → spareP ts (m.eraseIdx k) x = false
  cover : ∀ p ∈ l, ∃ y ∈ m, Hom ts p y
theorem shrink_ok {ts : List ByteArray} : ∀ (i : Nat) (l : List (List Atom)), i ≤ l.length → Shrunk ts i l (pruneN (spareP ts) i l)
  | 0, l, _ => ⟨⟨[], by simp [pruneN], by simp, fun k x h => by simp at h⟩, fun p hp => ⟨p, hp, hom_sub fun _ h => h⟩⟩
  | i + 1, l, hi => by
    have hx : l[i]? = some l[i] := List.getElem?_eq_getElem (by omega)
    rw [pruneN, hx]
    simp only
    by_cases hs : spareP ts (l.eraseIdx i) l[i] = true
    · rw [if_pos hs]
      obtain ⟨⟨m', e1, e2, e3⟩, hc⟩ := shrink_ok (ts := ts) i (l.eraseIdx i) (by rw [List.length_eraseIdx_of_lt (by omega)]; omega)
      generalize pruneN (spareP ts) i (l.eraseIdx i) = m at *
      have et : (l.eraseIdx i).take i = l.take i := by
        rw [List.eraseIdx_eq_take_drop_succ, List.take_append_of_le_length (by simp; omega), List.take_take, Nat.min_self]
      have ed : (l.eraseIdx i).drop i = l.drop (i + 1) := by
        rw [List.eraseIdx_eq_take_drop_succ, List.drop_append, List.drop_eq_nil_of_le (by simp; omega), List.nil_append, List.length_take, Nat.min_eq_left (by omega), Nat.sub_self, List.drop_zero]
      rw [et] at e2
      rw [ed] at e1
      refine ⟨⟨m', e1, e2.trans ?_, e3⟩, fun p hp => ?_⟩
      · rw [List.take_add_one]; exact List.sublist_append_left _ _
      · rcases (erase_mem hx p).2 hp |> List.mem_append.1 with h | h
        · exact hc p h
        · have : p = l[i] := by simpa using h
          subst this
          obtain ⟨y, hy, hh⟩ := spareP_iff.1 hs
          obtain ⟨z, hz, hz2⟩ := hc y hy
          exact ⟨z, hz, hom_trans hh hz2⟩
    · have hs : spareP ts (l.eraseIdx i) l[i] = false := by simpa using hs
      rw [hs, if_neg (by simp)]
      obtain ⟨⟨m', e1, e2, e3⟩, hc⟩ := shrink_ok (ts := ts) i l (by omega)
      generalize pruneN (spareP ts) i l = m at *
      have ed : l.drop i = l[i] :: l.drop (i + 1) := List.drop_eq_getElem_cons (by omega)
      refine ⟨⟨m' ++ [l[i]], by rw [e1, ed]; simp, ?_, fun k x hk => ?_⟩, hc⟩
      · rw [List.take_add_one, hx]; exact e2.append (List.Sublist.refl _)
      · rcases Nat.lt_or_ge k m'.length with h | h
        · rw [List.getElem?_append_left h] at hk; exact e3 k x hk
        · rw [List.getElem?_append_right h] at hk
          have hk0 : k = m'.length := by
            have := (List.getElem?_eq_some_iff.1 hk).1; simp at this; omega
          subst hk0
          have hxx : x = l[i] := by simpa using hk.symm
          subst hxx
          rw [Bool.eq_false_iff]; intro h2
          obtain ⟨y, hy, hh⟩ := spareP_iff.1 h2
          have em : m.eraseIdx m'.length = m' ++ l.drop (i + 1) := by
            rw [e1, ed, List.eraseIdx_append_of_length_le (Nat.le_refl _), Nat.sub_self]; rfl
          rw [em] at hy
          have : spareP ts (l.eraseIdx i) l[i] = true := spareP_iff.2 ⟨y, by
            rw [List.eraseIdx_eq_take_drop_succ]
            rcases List.mem_append.1 hy with h | h
            · exact List.mem_append_left _ (e2.subset h)
            · exact List.mem_append_right _ h, hh⟩
          rw [this] at hs; cases hs
structure IsShrunk (ts : List ByteArray) (l m : List (List Atom)) : Prop where
  sub : m.Sublist l
  cover : ∀ p ∈ l, ∃ y ∈ m, Hom ts p y
  tight : ∀ (i k : Nat) (x y : List Atom), i ≠ k → m[i]? = some x → m[k]? = some y → ¬ Hom ts x y
theorem shrinkL_ok (ts : List ByteArray) (l : List (List Atom)) : IsShrunk ts l (shrinkL ts l) := by
  obtain ⟨⟨m', e1, e2, e3⟩, hc⟩ := shrink_ok (ts := ts) l.length l (Nat.le_refl _)
  have e : pruneN (spareP ts) l.length l = shrinkL ts l := rfl
  rw [e] at e1 e3 hc
  rw [List.drop_length, List.append_nil] at e1
  rw [List.take_length] at e2
  subst e1
  refine ⟨e2, hc, fun i k x y hne hi hk hh => ?_⟩
  have := e3 i x hi
  rw [spareP_iff.2 ⟨y, List.mem_eraseIdx_iff_getElem?.2 ⟨k, Ne.symm hne, hk⟩, hh⟩] at this
  cases this
noncomputable def queryB (ts : List ByteArray) (l m : List (List Atom)) : Bool := l.all fun p => withinB ts p m
theorem queryB_iff {ts : List ByteArray} {l m : List (List Atom)} : queryB ts l m = true ↔ ∀ p ∈ l, ∃ y ∈ m, Hom ts p y := by
  unfold queryB withinB
  simp only [List.all_eq_true, List.any_eq_true, homB_iff]
/-! ### slices of parts, element by element -/
def PZ.enc (z : Value × List Atom) : List Value := [z.1]
def PV (h : Ghost) (v : Value) (zs : List (Value × List Atom)) : Prop := Sl h (fun z vs => vs = PZ.enc z) 1 v zs ∧ ∀ z ∈ zs, Atoms h z.1 z.2
theorem PV.mono {h h' : Ghost} {v : Value} {zs : List (Value × List Atom)} (H : PV h v zs) (hl : h.le h') : PV h' v zs := ⟨Sl.mono H.1 hl fun _ _ _ e => e, fun z hz => (H.2 z hz).mono hl⟩
theorem PV.shape {h : Ghost} {v : Value} {zs : List (Value × List Atom)} (H : PV h v zs) : ∃ ao cap, v = .slice ao zs.length cap ∧ zs.length ≤ cap := Sl.shape H.1
theorem PV.parts {h : Ghost} {v : Value} {zs : List (Value × List Atom)} (H : PV h v zs) : Parts h v (zs.map Prod.snd) := by
  obtain ⟨⟨ao, cap, rfl, hc, r⟩, ha⟩ := H
  refine ⟨ao, cap, by rw [List.length_map], by rw [List.length_map]; exact hc, ?_⟩
  rcases r with rfl | ⟨b, o, rfl, r⟩
  · exact .inl rfl
  · refine .inr ⟨b, o, rfl, fun i x hx => ?_⟩
    rw [List.getElem?_map, Option.map_eq_some_iff] at hx
    obtain ⟨z, hz, rfl⟩ := hx
    obtain ⟨vs, rfl, h2, h3⟩ := r i z hz
    exact ⟨_, ⟨z.1, rfl, ha z (List.mem_of_getElem? hz)⟩, h2, h3⟩
theorem Parts.pv {h : Ghost} {v : Value} {l : List (List Atom)} (H : Parts h v l) : ∃ zs : List (Value × List Atom), zs.map Prod.snd = l ∧ PV h v zs := by
  obtain ⟨ao, cap, rfl, hc, r⟩ := H
  rcases r with rfl | ⟨b, o, rfl, r⟩
  · exact ⟨[], rfl, Sl.nil _ _ _ _ _, fun z hz => by simp at hz⟩
  · obtain ⟨zs, hlen, hz⟩ := choose_list (α := Value × List Atom) (n := l.length) (p := fun i z => l[i]? = some z.2 ∧ Atoms h z.1 z.2 ∧ Seg h b (o + i * 1) [z.1]) fun i hi => by
      obtain ⟨vs, ⟨u, rfl, hu⟩, _, hs⟩ := r i _ (List.getElem?_eq_getElem hi)
      exact ⟨(u, l[i]), List.getElem?_eq_getElem hi, hu, hs⟩
    have hm : zs.map Prod.snd = l := by
      apply List.ext_getElem?
      intro i
      rw [List.getElem?_map]
      cases hi : zs[i]? with
      | none =>
        have : l.length ≤ i := by rw [← hlen]; exact List.getElem?_eq_none_iff.1 hi
        rw [List.getElem?_eq_none this]; rfl
      | some z => rw [(hz i z hi).1]; rfl
    refine ⟨zs, hm, ⟨_, cap, by rw [hlen], by omega, .inr ⟨b, o, rfl, fun i z hi => ⟨_, rfl, rfl, (hz i z hi).2.2⟩⟩⟩, fun z hzm => ?_⟩
    obtain ⟨i, hi⟩ := List.mem_iff_getElem?.1 hzm
    exact (hz i z hi).2.1
theorem fitsPZ {h : Ghost} {v : Value} {zs : List (Value × List Atom)} (H : PV h v zs) : Fits 1 (zs.map PZ.enc) := by
  refine ⟨fun vs hv => ?_, fun vs hv u hu => ?_⟩
  · obtain ⟨z, _, rfl⟩ := List.mem_map.1 hv; rfl
  · obtain ⟨z, hz, rfl⟩ := List.mem_map.1 hv
    have : u = z.1 := by simpa [PZ.enc] using hu
    subst this
    obtain ⟨a, c, e, _⟩ := (H.2 z hz).shape
    rw [e]; rfl
theorem flatPZ_len (zs : List (Value × List Atom)) : (zs.flatMap PZ.enc).length = zs.length * 1 := by
  induction zs with
  | nil => rfl
  | cons a l ih => rw [List.flatMap_cons, List.length_append, ih, List.length_cons]; show 1 + _ = _; omega
theorem pruneN_map {α β : Type} (f : α → β) (sp : List β → β → Bool) : ∀ (i : Nat) (l : List α), (pruneN (fun r x => sp (r.map f) (f x)) i l).map f = pruneN sp i (l.map f)
  | 0, l => rfl
  | i + 1, l => by
    rw [pruneN, pruneN, List.getElem?_map]
    cases hx : l[i]? with
    | none => simp only [Option.map_none]; exact pruneN_map f sp i l
    | some x =>
      simp only [Option.map_some]
      rw [← map_eraseIdx]
      split
      · exact pruneN_map f sp i _
      · exact pruneN_map f sp i _
end Go.Proofs.YtgpmjggdloldnaaGreatDoor

namespace Go.Proofs.YtgpmjggdloldnaaGreatDoor
open Go Go.Sx
set_option maxRecDepth 100000
theorem Equal_spec (v1 v2 : Value) (l1 l2 : List ByteArray) (h : Ghost) (h1 : Strs h v1 l1) (h2 : Strs h v2 l2) (hn1 : l1.length ≤ 1000000) (hn2 : l2.length ≤ 1000000) :
    SpecV Tryz.prog 31 [v1, v2] h (.bool (decide (l1 = l2))) := by
  obtain ⟨a1, c1, rfl, hc1⟩ := h1.shape
  obtain ⟨a2, c2, rfl, hc2⟩ := h2.shape
  refine SpecP.enter cl31 Tryz.func31 rfl Tryz.ntmps31 rfl fun E R => ?_
  refine Wc.seq ?_
  refine Wc.region ?_
  refine Wl.assign rfl rfl ?_
  refine Wl.nil ?_
  refine Wx.then_code ?_
  refine Wc.seq ?_
  refine Wc.seq ?_
  refine Wc.region ?_
  refine Wl.move rfl rfl ?_
  refine Wl.slLen Tryz.underlying25 rfl rfl ?_
  refine Wl.move rfl rfl ?_
  refine Wl.slLen Tryz.underlying25 rfl rfl ?_
  refine Wl.iNeq rfl rfl rfl ?_
  refine Wl.nil ?_
  refine Wx.then_code ?_
  refine Wc.condS rfl (fun hc1 => ?_) (fun hc1 => ?_)
  refine Wc.seq ?_
  refine Wc.region ?_
  refine Wl.assign rfl rfl ?_
  refine Wl.nil ?_
  refine Wx.then_code ?_
  refine Wc.ret ?_
  refine Wx.then_ret ?_
  · exact endV .ret (.inl rfl) rfl rfl [] (Ghost.le.refl _) (by rw [decide_eq_false]; rintro rfl; simp at hc1)
  have hlen : l1.length = l2.length := by have := hc1; simp at this; omega
  refine Wc.skip ?_
  refine Wx.then_code ?_
  refine Wc.seq ?_
  refine Wc.seq ?_
  refine Wc.region ?_
  refine Wl.move rfl rfl ?_
  refine Wl.slLen Tryz.underlying25 rfl rfl ?_
  refine Wl.move rfl rfl ?_
  refine Wl.nil ?_
  refine Wx.then_code ?_
  refine Wc.block ?_
  refine Wc.loop (ι := Nat) (fun i => i ≤ l1.length ∧ l1.take i = l2.take i) (fun i => [(0, .slice a1 l1.length c1), (1, .slice a2 l2.length c2), (12, .int .i64 l1.length), (13, .int .i64 i)]) (fun _ => _) (fun _ => _) (fun i => l1.length - i) 0
    ⟨Nat.zero_le _, rfl⟩ (.cons rfl (.cons rfl (.cons rfl (.cons rfl (.nil _))))) rfl rfl fun i ⟨hi, heq⟩ => ?_
  refine Wc.seq ?_
  refine Wc.region ?_
  refine Wl.iLss rfl rfl rfl ?_
  refine Wl.nil ?_
  refine Wx.then_code ?_
  refine Wc.seq ?_
  refine Wc.condS rfl (fun hc2 => ?_) (fun hc2 => ?_)
  refine Wc.skip ?_
  refine Wx.then_code ?_
  refine Wc.seq ?_
  refine Wc.block ?_
  refine Wc.seq ?_
  refine Wc.region ?_
  refine Wl.move rfl rfl ?_
  refine Wl.assign rfl rfl ?_
  refine Wl.nil ?_
  refine Wx.then_code ?_
  refine Wc.seq ?_
  have hlt1 : i < l1.length := by have := of_decide_eq_true hc2; omega
  have hlt2 : i < l2.length := by omega
  have hx1 := List.getElem?_eq_getElem hlt1
  have hx2 := List.getElem?_eq_getElem hlt2
  obtain ⟨b1, o1, e1, he1⟩ := Sl.at h1 (by omega)
  obtain ⟨b2, o2, e2, he2⟩ := Sl.at h2 (by omega)
  subst e1 e2
  have hs1 : Seg h b1 (o1 + i * 1) [.string l1[i]] := by
    obtain ⟨vs, e, _, hs⟩ := he1 i _ hx1; subst e; exact hs
  have hs2 : Seg h b2 (o2 + i * 1) [.string l2[i]] := by
    obtain ⟨vs, e, _, hs⟩ := he2 i _ hx2; subst e; exact hs
  apply Wc.draw (m := 9) (D := [[], [], [0, 1], [2], [], [], [4, 5], [6], [3, 7]]) (Ys := [.det _, .det _, .det (.pointer (some ⟨b1, o1 + i * 1, none⟩)), .det (.string l1[i]), .det _, .det _, .det (.pointer (some ⟨b2, o2 + i * 1, none⟩)), .det (.string l2[i]), .det _])
  · exact follows
  · kernel_rfl
  · rfl
  · rfl
  · rfl
  · skip
    apply Locs.mk
    · intro env K' h' S' hs hd hl hY
      refine Wl.move (hs _ _ rfl) rfl ?_
      refine Wl.nil ?_
      exact Wx.gives0 _ (Ghost.le.refl _) ⟨rfl, rfl⟩ (Sub.refl _)
    apply Locs.mk
    · intro env K' h' S' hs hd hl hY
      refine Wl.move (hs _ _ rfl) rfl ?_
      refine Wl.nil ?_
      exact Wx.gives0 _ (Ghost.le.refl _) ⟨rfl, rfl⟩ (Sub.refl _)
    apply Locs.mk
    · intro env K' h' S' hs hd hl hY
      refine Wl.elem (j := i) sl25 (detL (hd 0 (by decide)) (hY 0 (by decide))) (detL (hd 1 (by decide)) (hY 1 (by decide))) rfl hlt1 rfl ?_
      refine Wl.nil ?_
      exact Wx.gives0 _ (Ghost.le.refl _) ⟨rfl, rfl⟩ (Sub.refl _)
    apply Locs.mk
    · intro env K' h' S' hs hd hl hY
      refine Wl.loadG1 ty9 (detL (hd 2 (by decide)) (hY 2 (by decide))) (hs1.mono hl) rfl ?_
      refine Wl.nil ?_
      exact Wx.gives0 _ (Ghost.le.refl _) ⟨rfl, rfl⟩ (Sub.refl _)
    apply Locs.mk
    · intro env K' h' S' hs hd hl hY
      refine Wl.move (hs _ _ rfl) rfl ?_
      refine Wl.nil ?_
      exact Wx.gives0 _ (Ghost.le.refl _) ⟨rfl, rfl⟩ (Sub.refl _)
    apply Locs.mk
    · intro env K' h' S' hs hd hl hY
      refine Wl.move (hs _ _ rfl) rfl ?_
      refine Wl.nil ?_
      exact Wx.gives0 _ (Ghost.le.refl _) ⟨rfl, rfl⟩ (Sub.refl _)
    apply Locs.mk
    · intro env K' h' S' hs hd hl hY
      refine Wl.elem (j := i) sl25 (detL (hd 4 (by decide)) (hY 4 (by decide))) (detL (hd 5 (by decide)) (hY 5 (by decide))) rfl hlt2 rfl ?_
      refine Wl.nil ?_
      exact Wx.gives0 _ (Ghost.le.refl _) ⟨rfl, rfl⟩ (Sub.refl _)
    apply Locs.mk
    · intro env K' h' S' hs hd hl hY
      refine Wl.loadG1 ty9 (detL (hd 6 (by decide)) (hY 6 (by decide))) (hs2.mono hl) rfl ?_
      refine Wl.nil ?_
      exact Wx.gives0 _ (Ghost.le.refl _) ⟨rfl, rfl⟩ (Sub.refl _)
    apply Locs.mk
    · intro env K' h' S' hs hd hl hY
      refine Wl.sNeq (detL (hd 3 (by decide)) (hY 3 (by decide))) (detL (hd 7 (by decide)) (hY 7 (by decide))) rfl ?_
      refine Wl.nil ?_
      exact Wx.gives0 _ (Ghost.le.refl _) ⟨rfl, rfl⟩ (Sub.refl _)
    trivial
  · exact ⟨trivial, trivial, trivial, trivial, trivial, trivial, trivial, trivial, trivial, trivial⟩
  intro h' hl'
  show Wl _ _ _ [] _ ((24, _) :: (23, _) :: (22, _) :: (21, _) :: (20, _) :: (19, _) :: (18, _) :: (17, _) :: (16, _) :: _) _ _ _
  refine Wl.nil ?_
  refine Wx.then_code ?_
  refine Wc.condS rfl (fun hc3 => ?_) (fun hc3 => ?_)
  refine Wc.seq ?_
  refine Wc.region ?_
  refine Wl.assign rfl rfl ?_
  refine Wl.nil ?_
  refine Wx.then_code ?_
  refine Wc.ret ?_
  refine Wx.block_ret ?_
  refine Wx.then_ret ?_
  refine Wx.then_ret ?_
  refine Wx.block_ret ?_
  refine Wx.then_ret ?_
  · exact endV .ret (.inl rfl) rfl rfl [] hl' (by
      rw [decide_eq_false]; rintro rfl; rw [beq_str] at hc3; simp at hc3)
  refine Wc.skip ?_
  refine Wx.block_normal ?_
  refine Wx.then_code ?_
  refine Wc.region ?_
  refine Wl.inc rfl rfl (by first | assumption | omega | (have hx := of_decide_eq_true hc3; omega) | (have hx := of_decide_eq_true hc2; omega) | (have hx := of_decide_eq_true hc1; omega)) ?_
  refine Wl.move rfl rfl ?_
  refine Wl.nil ?_
  · refine Wx.weak hl' (Wx.again (i + 1) ⟨hlt1, ?_⟩ (by omega) (.cons rfl (.cons rfl (.cons rfl (.cons rfl (.nil _))))) rfl .refl)
    have : l1[i] = l2[i] := by rw [beq_str] at hc3; simpa using hc3
    rw [List.take_add_one, List.take_add_one, hx1, hx2, heq, this]
  refine Wc.exit ?_
  refine Wx.then_exit ?_
  refine Wx.then_exit ?_
  refine Wx.block_exit ?_
  refine Wx.then_code ?_
  refine Wc.seq ?_
  refine Wc.region ?_
  refine Wl.assign rfl rfl ?_
  refine Wl.nil ?_
  refine Wx.then_code ?_
  refine Wc.ret ?_
  · have hi' : i = l1.length := by have := of_decide_eq_false hc2; omega
    rw [hi', List.take_length, hlen, List.take_length] at heq
    exact endV .ret (.inl rfl) rfl rfl [] (Ghost.le.refl _) (by rw [decide_eq_true heq])
theorem IndexPart_spec (v : Value) (zs : List (Value × List Atom)) (h : Ghost) (g : Nat) (caps : List Value) (p : List Atom → Bool) (hv : PV h v zs) (hl : zs.length ≤ 1000000) (hp : ∀ z ∈ zs, SpecV Tryz.prog g ([.agg (PZ.enc z).toArray] ++ caps) h (.bool (p z.2))) :
    SpecP Tryz.prog 77 [v, .func (.func g) #[] caps.toArray] h fun u _ => ∃ c : Int, u = .int .i64 c ∧ (0 ≤ c ↔ (zs.map Prod.snd).any p = true) := by
  obtain ⟨ao, cap, rfl, hcap⟩ := hv.shape
  have hany : (zs.map Prod.snd).any p = zs.any fun z => p z.2 := by rw [List.any_map]; rfl
  rw [hany]
  refine SpecP.enter cl77 Tryz.func77 rfl Tryz.ntmps77 rfl fun E R => ?_
  refine Wc.seq ?_
  refine Wc.region ?_
  refine Wl.assign rfl rfl ?_
  refine Wl.nil ?_
  refine Wx.then_code ?_
  refine Wc.seq ?_
  refine Wc.seq ?_
  refine Wc.region ?_
  refine Wl.move rfl rfl ?_
  refine Wl.slLen Tryz.underlying39 rfl rfl ?_
  refine Wl.move rfl rfl ?_
  refine Wl.nil ?_
  refine Wx.then_code ?_
  refine Wc.block ?_
  refine Wc.loop (ι := Nat) (fun i => i ≤ zs.length ∧ (zs.take i).any (fun z => p z.2) = false) (fun i => [(0, .slice ao zs.length cap), (1, .func (.func g) #[] caps.toArray), (7, .int .i64 zs.length), (8, .int .i64 i)]) (fun _ => _) (fun _ => _) (fun i => zs.length - i) 0
    ⟨Nat.zero_le _, rfl⟩ (.cons rfl (.cons rfl (.cons rfl (.cons rfl (.nil _))))) rfl rfl fun i ⟨hi, hno⟩ => ?_
  refine Wc.seq ?_
  refine Wc.region ?_
  refine Wl.iLss rfl rfl rfl ?_
  refine Wl.nil ?_
  refine Wx.then_code ?_
  refine Wc.seq ?_
  refine Wc.condS rfl (fun hc1 => ?_) (fun hc1 => ?_)
  refine Wc.skip ?_
  refine Wx.then_code ?_
  refine Wc.seq ?_
  refine Wc.block ?_
  refine Wc.seq ?_
  refine Wc.region ?_
  refine Wl.move rfl rfl ?_
  refine Wl.assign rfl rfl ?_
  refine Wl.nil ?_
  refine Wx.then_code ?_
  refine Wc.seq ?_
  refine Wc.region ?_
  refine Wl.move rfl rfl ?_
  refine Wl.move rfl rfl ?_
  refine Wl.move rfl rfl ?_
  have hlt : i < zs.length := by have := of_decide_eq_true hc1; omega
  have hx := List.getElem?_eq_getElem hlt
  refine Wl.elemF sl39 rfl hv.1 rfl rfl hx rfl fun b o hseg => ?_
  refine Wl.loadGA ty24 rfl hseg rfl rfl ?_
  refine Wl.callV rfl rfl rfl (hp _ (List.getElem_mem hlt)) ?_
  refine Wl.nil ?_
  refine Wx.then_code ?_
  refine Wc.condS rfl (fun hc2 => ?_) (fun hc2 => ?_)
  refine Wc.seq ?_
  refine Wc.region ?_
  refine Wl.move rfl rfl ?_
  refine Wl.assign rfl rfl ?_
  refine Wl.nil ?_
  refine Wx.then_code ?_
  refine Wc.ret ?_
  refine Wx.block_ret ?_
  refine Wx.then_ret ?_
  refine Wx.then_ret ?_
  refine Wx.block_ret ?_
  refine Wx.then_ret ?_
  · refine Fin.slots (L := []) .ret (.inl rfl) (run_tmp rfl rfl) (Ghost.le.refl _) fun _ _ => ⟨rfl, _, rfl, ?_⟩
    exact ⟨fun _ => List.any_eq_true.2 ⟨_, List.getElem_mem hlt, hc2⟩, fun _ => by omega⟩
  refine Wc.skip ?_
  refine Wx.block_normal ?_
  refine Wx.then_code ?_
  refine Wc.region ?_
  refine Wl.inc rfl rfl (by first | assumption | omega | (have hx := of_decide_eq_true hc2; omega) | (have hx := of_decide_eq_true hc1; omega)) ?_
  refine Wl.move rfl rfl ?_
  refine Wl.nil ?_
  · refine Wx.again (i + 1) ⟨hlt, ?_⟩ (by omega) (.cons rfl (.cons rfl (.cons rfl (.cons rfl (.nil _))))) rfl .refl
    rw [List.take_add_one, hx, List.any_append, hno]; simp [show p zs[i].2 = false from hc2]
  refine Wc.exit ?_
  refine Wx.then_exit ?_
  refine Wx.then_exit ?_
  refine Wx.block_exit ?_
  refine Wx.then_code ?_
  refine Wc.seq ?_
  refine Wc.region ?_
  refine Wl.assign rfl rfl ?_
  refine Wl.nil ?_
  refine Wx.then_code ?_
  refine Wc.ret ?_
  · refine Fin.slots (L := []) .ret (.inl rfl) (run_tmp rfl rfl) (Ghost.le.refl _) fun _ _ => ⟨rfl, _, rfl, ?_⟩
    have hi' : i = zs.length := by have := of_decide_eq_false hc1; omega
    rw [hi', List.take_length] at hno
    rw [hno]; exact ⟨fun h => absurd h (by decide), fun h => by cases h⟩
theorem ContainsPart_spec (v : Value) (zs : List (Value × List Atom)) (h : Ghost) (g : Nat) (caps : List Value) (p : List Atom → Bool) (hv : PV h v zs) (hl : zs.length ≤ 1000000) (hp : ∀ z ∈ zs, SpecV Tryz.prog g ([.agg (PZ.enc z).toArray] ++ caps) h (.bool (p z.2))) :
    SpecV Tryz.prog 53 [v, .func (.func g) #[] caps.toArray] h (.bool ((zs.map Prod.snd).any p)) := by
  refine SpecP.enter cl53 Tryz.func53 rfl Tryz.ntmps53 rfl fun E R => ?_
  refine Wc.seq ?_
  refine Wc.region ?_
  refine Wl.assign rfl rfl ?_
  refine Wl.nil ?_
  refine Wx.then_code ?_
  refine Wc.seq ?_
  refine Wc.region ?_
  refine Wl.move rfl rfl ?_
  refine Wl.move rfl rfl ?_
  refine Wl.callP rfl rfl rfl (IndexPart_spec v zs h g caps p hv hl hp) fun u h' hl' ⟨c, hu, hc⟩ => ?_
  subst hu
  refine Wl.iGeq rfl rfl rfl ?_
  refine Wl.assign rfl rfl ?_
  refine Wl.nil ?_
  refine Wx.then_code ?_
  refine Wc.ret ?_
  refine endV .ret (.inl rfl) rfl rfl [] hl' ?_
  rw [Value.bool.injEq, Bool.eq_iff_iff, decide_eq_true_iff]; exact hc
theorem within1_spec (xv pv tv : Value) (x p : List Atom) (ts : List ByteArray) (bP bT : Nat) (h : Ghost) (hx : Atoms h xv x) (hp : Atoms h pv p) (ht : Strs h tv ts) (hbP : Seg h bP 0 [pv]) (hbT : Seg h bT 0 [tv]) (hlx : x.length < 1000000) (hlp : p.length < 1000000) (hlt : ts.length ≤ 1000000)
    (hok : ∀ y ∈ x, y.kind = 2 ∨ y.y = emp) : SpecV Tryz.prog 54 [.agg #[xv], .pointer (some ⟨bP, 0, none⟩), .pointer (some ⟨bT, 0, none⟩)] h (.bool (homB ts p x)) := by
  obtain ⟨ox, cx, rfl, _⟩ := hx.shape
  refine SpecP.enter cl54 Tryz.func54 rfl Tryz.ntmps54 rfl fun E R => ?_
  refine Wc.seq ?_
  refine Wc.region ?_
  refine Wl.box rfl (by rfl) rfl (fun b1 => ?_)
  refine Wl.assign rfl rfl ?_
  refine Wl.nil ?_
  refine Wx.then_code ?_
  refine Wc.seq ?_
  refine Wc.region ?_
  refine Wl.field fd24_0 rfl rfl ?_
  refine Wl.loadG1 ty22 rfl hbP rfl ?_
  refine Wl.field fd24_0 rfl rfl ?_
  refine Wl.loadO ty22 rfl (by repeat (first | exact .here | apply Has.there)) rfl rfl ?_
  refine Wl.loadG1 ty25 rfl hbT rfl ?_
  refine Wl.callV rfl rfl rfl (contained_spec _ _ _ ts p x h hp hx ht hlp hlx hlt hok) ?_
  refine Wl.assign rfl rfl ?_
  refine Wl.nil ?_
  refine Wx.then_code ?_
  refine Wc.ret ?_
  exact endV .ret (.inl rfl) rfl rfl [_] (Ghost.le.refl _) rfl
theorem within_spec (pv lv tv : Value) (p : List Atom) (zs : List (Value × List Atom)) (ts : List ByteArray) (h : Ghost) (hp : Atoms h pv p) (hl : PV h lv zs) (ht : Strs h tv ts) (hlp : p.length < 1000000) (hlz : zs.length ≤ 1000000) (hla : ∀ z ∈ zs, z.2.length < 1000000) (hlt : ts.length ≤ 1000000)
    (hok : ∀ z ∈ zs, ∀ y ∈ z.2, y.kind = 2 ∨ y.y = emp) : SpecV Tryz.prog 30 [.agg #[pv], lv, tv] h (.bool (withinB ts p (zs.map Prod.snd))) := by
  obtain ⟨op, cp, rfl, _⟩ := hp.shape
  obtain ⟨ot, ct, rfl, _⟩ := ht.shape
  refine SpecP.enter cl30 Tryz.func30 rfl Tryz.ntmps30 rfl fun E R => ?_
  refine Wc.seq ?_
  refine Wc.region ?_
  refine Wl.box rfl (by rfl) rfl (fun b1 => ?_)
  refine Wl.box rfl (by rfl) rfl (fun b2 => ?_)
  refine Wl.assign rfl rfl ?_
  refine Wl.nil ?_
  refine Wx.then_code ?_
  refine Wc.seq ?_
  refine Wc.region ?_
  refine Wl.move rfl rfl ?_
  refine Wl.makeFunc rfl rfl rfl ?_
  refine Wl.frz1 fun g1 l1 e2 => Wl.frz1 fun g2 l2 e1 => ?_
  refine Wl.callV rfl rfl rfl (ContainsPart_spec lv zs g2 54 [.pointer (some ⟨b1, 0, none⟩), .pointer (some ⟨b2, 0, none⟩)] (fun x => homB ts p x) (hl.mono (l1.trans l2)) hlz fun z hz =>
    within1_spec z.1 _ _ z.2 p ts b1 b2 g2 ((hl.2 z hz).mono (l1.trans l2)) (hp.mono (l1.trans l2)) (ht.mono (l1.trans l2)) (Seg.of_block e1) (Seg.of_block (l2 _ _ e2)) (hla z hz) hlp hlt (hok z hz)) ?_
  refine Wl.assign rfl rfl ?_
  refine Wl.nil ?_
  refine Wx.then_code ?_
  refine Wc.ret ?_
  exact endV .ret (.inl rfl) rfl rfl [] (l1.trans l2) rfl
theorem prunePart_spec (v : Value) (zs : List (Value × List Atom)) (h : Ghost) (g : Nat) (caps : List Value) (sp : List (List Atom) → List Atom → Bool) (hv : PV h v zs) (hl : zs.length ≤ 100000)
    (hsp : ∀ (rest : List (Value × List Atom)) (x : Value × List Atom) (u : Value) (h' : Ghost), h.le h' → PV h' u rest → rest.length ≤ 100000 → (∀ a ∈ rest, a ∈ zs) → x ∈ zs → SpecV Tryz.prog g ([u, .agg (PZ.enc x).toArray] ++ caps) h' (.bool (sp (rest.map Prod.snd) x.2))) :
    SpecP Tryz.prog 28 [v, .func (.func g) #[] caps.toArray] h fun u h' => ∃ ms, PV h' u ms ∧ ms.map Prod.snd = pruneL sp (zs.map Prod.snd) ∧ ∀ z ∈ ms, z ∈ zs := by
  obtain ⟨sq, hsq⟩ : ∃ sq : List (Value × List Atom) → (Value × List Atom) → Bool, sq = fun r x => sp (r.map Prod.snd) x.2 := ⟨_, rfl⟩
  have hmap : (pruneL sq zs).map Prod.snd = pruneL sp (zs.map Prod.snd) := by
    rw [hsq, pruneL, pruneL, List.length_map]; exact pruneN_map Prod.snd sp zs.length zs
  rw [← hmap]
  have hsp : ∀ (rest : List (Value × List Atom)) (x : Value × List Atom) (u : Value) (h' : Ghost), h.le h' → PV h' u rest → rest.length ≤ 100000 → (∀ a ∈ rest, a ∈ zs) → x ∈ zs → SpecV Tryz.prog g ([u, .agg (PZ.enc x).toArray] ++ caps) h' (.bool (sq rest x)) := by
    rw [hsq]; exact hsp
  clear hmap hsq
  refine SpecP.enter cl28 Tryz.func28 rfl Tryz.ntmps28 rfl fun E R => ?_
  refine Wc.seq ?_
  refine Wc.region ?_
  refine Wl.assign rfl rfl ?_
  refine Wl.nil ?_
  refine Wx.then_code ?_
  refine Wc.seq ?_
  refine Wc.region ?_
  refine Wl.move rfl rfl ?_
  refine Wl.call (F := []) (G := _) rfl rfl rfl rfl (ClonePart_spec _ (zs.map PZ.enc) h (fitsPZ hv) (Sl.map hv.1) (by rw [List.length_map]; omega)) (.refl _) fun cl h1 F' hl1 ⟨e1, FC, hF', hrow⟩ => ?_
  subst e1 hF'
  refine Wl.frz fun g1 hg1 hFC => ?_
  have hrow : Row FC cl 24 1 zs.length (zs.flatMap PZ.enc) := by rw [List.length_map] at hrow; rwa [List.flatMap_def]
  have hcl : PV g1 cl zs := ⟨Row.sl (fun _ => rfl) hrow rfl hFC, fun z hz => (hv.2 z hz).mono hg1⟩
  obtain ⟨co, cc, rfl, hcc⟩ := hcl.shape
  refine Wl.assign rfl rfl ?_
  refine Wl.nil ?_
  refine Wx.then_code ?_
  refine Wc.seq ?_
  refine Wc.seq ?_
  refine Wc.region ?_
  refine Wl.move rfl rfl ?_
  refine Wl.slLen Tryz.underlying39 rfl rfl ?_
  refine Wl.iSub (c := (zs.length : Int) - 1) rfl rfl rfl (IntWalk.i64_in _ (by omega)) ?_
  refine Wl.assign rfl rfl ?_
  refine Wl.nil ?_
  refine Wx.then_code ?_
  refine Wc.block ?_
  refine Wc.loop (ι := Nat × (Value × List (Value × List Atom)) × Ghost) (fun x => x.1 ≤ x.2.1.2.length ∧ x.2.1.2.length ≤ 100000 ∧ pruneN sq x.1 x.2.1.2 = pruneL sq zs ∧ g1.le x.2.2 ∧ PV x.2.2 x.2.1.1 x.2.1.2 ∧ ∀ a ∈ x.2.1.2, a ∈ zs)
    (fun x => [(0, x.2.1.1), (1, .func (.func g) #[] caps.toArray), (5, .int .i64 ((x.1 : Int) - 1))]) (fun x => x.2.2) (fun _ => _) (fun x => x.1) (zs.length, (_, zs), g1)
    ⟨Nat.le_refl _, hl, rfl, Ghost.le.refl _, hcl, fun _ h => h⟩ (.cons rfl (.cons rfl (.cons rfl (.nil _)))) rfl rfl fun ⟨k, ⟨cv, m⟩, g2⟩ ⟨hk, hm, hpr, hg2, hcm, hml⟩ => ?_
  dsimp only at hk hm hpr hg2 hcm hml
  refine Wc.seq ?_
  refine Wc.seq ?_
  refine Wc.region ?_
  refine Wl.move rfl rfl ?_
  refine Wl.iGeq rfl rfl rfl ?_
  refine Wl.nil ?_
  refine Wx.then_code ?_
  refine Wc.condS rfl (fun hc1 => ?_) (fun hc1 => ?_)
  refine Wc.skip ?_
  refine Wx.then_code ?_
  refine Wc.seq ?_
  refine Wc.block ?_
  refine Wc.seq ?_
  refine Wc.region ?_
  refine Wl.move rfl rfl ?_
  obtain ⟨j, rfl⟩ : ∃ j, k = j + 1 := ⟨k - 1, by have := of_decide_eq_true hc1; dsimp only at this; omega⟩
  have hj : j < m.length := by omega
  have hx := List.getElem?_eq_getElem hj
  refine Wl.slot 5 (.int .i64 (j : Int)) (show some (Value.int .i64 (((j + 1 : Nat) : Int) - 1)) = some (.int .i64 (j : Int)) by congr 2; omega) ?_
  obtain ⟨mo, mc, rfl, hmc⟩ := hcm.shape
  refine Wl.call (F := []) (G := _) rfl rfl rfl rfl (ClonePart_spec _ (m.map PZ.enc) g2 (fitsPZ hcm) (Sl.map hcm.1) (by rw [List.length_map]; omega)) (.refl _) fun cl g3 F' hg3 ⟨e1, FC, hF', hrow⟩ => ?_
  subst e1 hF'
  refine Wl.move rfl rfl ?_
  refine Wl.move rfl rfl ?_
  refine Wl.inc rfl rfl (by first | assumption | omega | (have hx := of_decide_eq_true hc1; omega)) ?_
  refine Wl.callA [] _ rfl rfl rfl rfl (DeletePart_spec cl FC (m.map PZ.enc) g3 j (fitsPZ hcm) hrow (by rw [List.length_map]; exact hj) (by rw [List.length_map]; omega)) rfl fun rv g4 F' hg4 ⟨FD, hF', hrow2⟩ => ?_
  subst hF'
  refine Wl.frz fun g5 hg45 hFD => ?_
  have hg5 : g3.le g5 := hg4.trans hg45
  have hrest : PV g5 rv (m.eraseIdx j) := by
    refine ⟨Sl.unmap ?_, fun z hz => (hcm.2 z (List.mem_of_mem_eraseIdx hz)).mono hg5⟩
    rw [map_eraseIdx]
    refine Row.raw ((fitsPZ hcm).erase j).1 hrow2 ?_ hFD
    rw [List.length_eraseIdx_of_lt (by rw [List.length_map]; exact hj), List.length_map]
  have hcm5 := hcm.mono hg5
  have hrl : (m.eraseIdx j).length = m.length - 1 := List.length_eraseIdx_of_lt hj
  have hrm : ∀ a ∈ m.eraseIdx j, a ∈ zs := fun a ha => hml a (List.mem_of_mem_eraseIdx ha)
  have hpr2 : pruneN sq (j + 1) m = if sq (m.eraseIdx j) m[j] then pruneN sq j (m.eraseIdx j) else pruneN sq j m := by
    rw [pruneN, hx]
  refine Wl.assign rfl rfl ?_
  refine Wl.nil ?_
  refine Wx.then_code ?_
  refine Wc.seq ?_
  refine Wc.region ?_
  refine Wl.move rfl rfl ?_
  refine Wl.move rfl rfl ?_
  refine Wl.move rfl rfl ?_
  refine Wl.move rfl rfl ?_
  refine Wl.elemF (i := j) sl39 rfl hcm5.1 rfl rfl hx rfl fun b o hseg => ?_
  refine Wl.loadGA ty24 rfl hseg rfl rfl ?_
  refine Wl.callV rfl rfl rfl (hsp (m.eraseIdx j) m[j] rv g5 ((hg1.trans hg2).trans hg5) hrest (by omega) hrm (hml _ (List.getElem_mem hj))) ?_
  refine Wl.nil ?_
  refine Wx.then_code ?_
  refine Wc.condS rfl (fun hc2 => ?_) (fun hc2 => ?_)
  refine Wc.region ?_
  refine Wl.move rfl rfl ?_
  refine Wl.assign rfl rfl ?_
  refine Wl.nil ?_
  refine Wx.block_normal ?_
  refine Wx.then_code ?_
  refine Wc.region ?_
  refine Wl.move rfl rfl ?_
  · rw [show sq (m.eraseIdx j) m[j] = true from hc2, if_pos rfl, hpr] at hpr2
    refine Wl.iSub (c := (j : Int) - 1) rfl rfl rfl (IntWalk.i64_in _ (by omega)) ?_
    refine Wl.assign rfl rfl ?_
    refine Wl.nil ?_
    exact Wx.again (j, (_, m.eraseIdx j), g5) ⟨show j ≤ (m.eraseIdx j).length by omega, show (m.eraseIdx j).length ≤ 100000 by omega, hpr2.symm, hg2.trans hg5, hrest, hrm⟩ (Nat.lt_succ_self j) (.cons rfl (.cons rfl (.cons rfl (.nil _)))) rfl .refl
  refine Wc.skip ?_
  refine Wx.block_normal ?_
  refine Wx.then_code ?_
  refine Wc.region ?_
  refine Wl.move rfl rfl ?_
  · rw [show sq (m.eraseIdx j) m[j] = false from hc2, if_neg (by simp), hpr] at hpr2
    refine Wl.iSub (c := (j : Int) - 1) rfl rfl rfl (IntWalk.i64_in _ (by omega)) ?_
    refine Wl.assign rfl rfl ?_
    refine Wl.nil ?_
    exact Wx.again (j, (_, m), g5) ⟨show j ≤ m.length by omega, hm, hpr2.symm, hg2.trans hg5, hcm5, hml⟩ (Nat.lt_succ_self j) (.cons rfl (.cons rfl (.cons rfl (.nil _)))) rfl .refl
  refine Wc.exit ?_
  refine Wx.then_exit ?_
  refine Wx.then_exit ?_
  refine Wx.block_exit ?_
  refine Wx.then_code ?_
  refine Wc.seq ?_
  refine Wc.region ?_
  refine Wl.move rfl rfl ?_
  refine Wl.assign rfl rfl ?_
  refine Wl.nil ?_
  refine Wx.then_code ?_
  refine Wc.ret ?_
  have hk0 : k = 0 := by have := of_decide_eq_false hc1; dsimp only at this; omega
  subst hk0
  refine Fin.slots (L := []) .ret (.inl rfl) (run_tmp rfl rfl) (hg1.trans hg2) fun _ hle => ⟨rfl, m, hcm.mono hle, ?_, hml⟩
  rw [← hpr]; rfl
end Go.Proofs.YtgpmjggdloldnaaGreatDoor

namespace Go.Proofs.YtgpmjggdloldnaaGreatDoor
open Go Go.Sx
set_option maxRecDepth 100000
theorem evP1 {K : List (Nat × Value)} {i : Nat} {x : Operand} {u : Value} (h1 : ev K x = some u) : evP K [(i, x)] = some [(i, u)] := by simp [evP, h1]
theorem Shrink1_spec (lv pv tv qv : Value) (p : List Atom) (zs : List (Value × List Atom)) (ts : List ByteArray) (bQ : Nat) (h : Ghost) (hp : Atoms h pv p) (hl : PV h lv zs) (ht : Strs h tv ts) (hb : Seg h bQ 0 [tv, qv]) (hlp : p.length < 1000000) (hlz : zs.length ≤ 1000000) (hla : ∀ z ∈ zs, z.2.length < 1000000) (hlt : ts.length ≤ 1000000)
    (hok : ∀ z ∈ zs, ∀ y ∈ z.2, y.kind = 2 ∨ y.y = emp) : SpecV Tryz.prog 29 [lv, .agg #[pv], .pointer (some ⟨bQ, 0, none⟩)] h (.bool (spareP ts (zs.map Prod.snd) p)) := by
  obtain ⟨op, cp, rfl, _⟩ := hp.shape
  obtain ⟨ot, ct, rfl, _⟩ := ht.shape
  refine SpecP.enter cl29 Tryz.func29 rfl Tryz.ntmps29 rfl fun E R => ?_
  refine Wc.seq ?_
  refine Wc.region ?_
  refine Wl.box rfl (by rfl) rfl (fun b1 => ?_)
  refine Wl.assign rfl rfl ?_
  refine Wl.nil ?_
  refine Wx.then_code ?_
  refine Wc.seq ?_
  refine Wc.region ?_
  refine Wl.loadOA ty24 rfl (by repeat (first | exact .here | apply Has.there)) rfl rfl ?_
  refine Wl.move rfl rfl ?_
  refine Wl.field fd41_0 rfl rfl ?_
  refine Wl.loadG1 ty25 rfl hb rfl ?_
  refine Wl.callV rfl rfl rfl (within_spec _ lv _ p zs ts h hp hl ht hlp hlz hla hlt hok) ?_
  refine Wl.assign rfl rfl ?_
  refine Wl.nil ?_
  refine Wx.then_code ?_
  refine Wc.ret ?_
  exact endV .ret (.inl rfl) rfl rfl [_] (Ghost.le.refl _) rfl
theorem Query_spec (tv pv tv2 pv2 : Value) (ts ts2 : List ByteArray) (l l2 : List (List Atom)) (h : Ghost) (ht : Strs h tv ts) (hp : Parts h pv l) (ht2 : Strs h tv2 ts2) (hp2 : Parts h pv2 l2) (g : Gl h) (hl : l.length ≤ 1000) (hl2 : l2.length ≤ 1000) (hlt : ts.length ≤ 1000) (hlt2 : ts2.length ≤ 1000)
    (hla : ∀ p ∈ l, p.length ≤ 1000) (hla2 : ∀ p ∈ l2, p.length ≤ 1000) (hq : queryE ts l = 0) (hq2 : queryE ts2 l2 = 0) (he : ts = ts2) :
    SpecV Tryz.prog 14 [.agg #[tv, pv], .agg #[tv2, pv2]] h (.tuple #[.bool (queryB ts l l2), .int .i64 0]) := by
  obtain ⟨zs, rfl, hz⟩ := hp.pv
  obtain ⟨zs2, rfl, hz2⟩ := hp2.pv
  rw [List.length_map] at hl hl2
  have hqa : queryB ts (zs.map Prod.snd) (zs2.map Prod.snd) = zs.all fun z => withinB ts z.2 (zs2.map Prod.snd) := by rw [queryB, List.all_map]; rfl
  rw [hqa]
  have hz' := hz
  have hz2' := hz2
  obtain ⟨oz, cz, rfl, _⟩ := hz'.shape
  obtain ⟨oz2, cz2, rfl, _⟩ := hz2'.shape
  obtain ⟨ot, ct, rfl, _⟩ := ht.shape
  obtain ⟨ot2, ct2, rfl, _⟩ := ht2.shape
  refine SpecP.enter cl14 Tryz.func14 rfl Tryz.ntmps14 rfl fun E R => ?_
  refine Wc.seq ?_
  refine Wc.region ?_
  refine Wl.box rfl (by rfl) rfl (fun b1 => ?_)
  refine Wl.box rfl (by rfl) rfl (fun b2 => ?_)
  refine Wl.assign rfl rfl ?_
  refine Wl.assign rfl rfl ?_
  refine Wl.nil ?_
  refine Wx.then_code ?_
  refine Wc.seq ?_
  refine Wc.seq ?_
  refine Wc.region ?_
  refine Wl.loadOA ty41 rfl (by repeat (first | exact .here | apply Has.there)) rfl rfl ?_
  refine Wl.callV rfl rfl rfl (Check_spec _ _ ts _ h 0 ht hp (by rw [List.length_map]; omega) (by omega) (fun p hp => by have := hla p hp; omega) g) ?_
  rw [hq]
  refine Wl.assign rfl rfl ?_
  refine Wl.nil ?_
  refine Wx.then_code ?_
  refine Wc.seq ?_
  refine Wc.region ?_
  refine Wl.move rfl rfl ?_
  refine Wl.iNeq rfl rfl rfl ?_
  refine Wl.nil ?_
  refine Wx.then_code ?_
  refine Wc.condS rfl (fun hc1 => ?_) (fun hc1 => ?_)
  refine Wc.seq ?_
  refine Wc.region ?_
  refine Wl.move rfl rfl ?_
  refine Wl.assign rfl rfl ?_
  refine Wl.assign rfl rfl ?_
  refine Wl.nil ?_
  refine Wx.then_code ?_
  refine Wc.ret ?_
  refine Wx.then_ret ?_
  · exact absurd hc1 (by decide)
  refine Wc.skip ?_
  refine Wx.then_code ?_
  refine Wc.seq ?_
  refine Wc.seq ?_
  refine Wc.region ?_
  refine Wl.loadOA ty41 rfl (by repeat (first | exact .here | apply Has.there)) rfl rfl ?_
  refine Wl.callV rfl rfl rfl (Check_spec _ _ ts2 _ h 0 ht2 hp2 (by rw [List.length_map]; omega) (by omega) (fun p hp => by have := hla2 p hp; omega) g) ?_
  rw [hq2]
  refine Wl.assign rfl rfl ?_
  refine Wl.nil ?_
  refine Wx.then_code ?_
  refine Wc.seq ?_
  refine Wc.region ?_
  refine Wl.move rfl rfl ?_
  refine Wl.iNeq rfl rfl rfl ?_
  refine Wl.nil ?_
  refine Wx.then_code ?_
  refine Wc.condS rfl (fun hc2 => ?_) (fun hc2 => ?_)
  refine Wc.seq ?_
  refine Wc.region ?_
  refine Wl.move rfl rfl ?_
  refine Wl.assign rfl rfl ?_
  refine Wl.assign rfl rfl ?_
  refine Wl.nil ?_
  refine Wx.then_code ?_
  refine Wc.ret ?_
  refine Wx.then_ret ?_
  · exact absurd hc2 (by decide)
  refine Wc.skip ?_
  refine Wx.then_code ?_
  refine Wc.seq ?_
  refine Wc.seq ?_
  refine Wc.region ?_
  refine Wl.field fd41_0 rfl rfl ?_
  refine Wl.loadO ty25 rfl (by repeat (first | exact .here | apply Has.there)) rfl rfl ?_
  refine Wl.field fd41_0 rfl rfl ?_
  refine Wl.loadO ty25 rfl (by repeat (first | exact .here | apply Has.there)) rfl rfl ?_
  refine Wl.callV rfl rfl rfl (Equal_spec _ _ ts ts2 h ht ht2 (by omega) (by omega)) ?_
  rw [decide_eq_true he]
  refine Wl.not rfl rfl ?_
  refine Wl.nil ?_
  refine Wx.then_code ?_
  refine Wc.condS rfl (fun hc3 => ?_) (fun hc3 => ?_)
  refine Wc.seq ?_
  refine Wc.region ?_
  refine Wl.assign rfl rfl ?_
  refine Wl.assign rfl rfl ?_
  refine Wl.nil ?_
  refine Wx.then_code ?_
  refine Wc.ret ?_
  refine Wx.then_ret ?_
  · exact absurd hc3 (by decide)
  refine Wc.skip ?_
  refine Wx.then_code ?_
  refine Wc.seq ?_
  refine Wc.seq ?_
  refine Wc.region ?_
  refine Wl.field fd41_1 rfl rfl ?_
  refine Wl.loadO ty39 rfl (by repeat (first | exact .here | apply Has.there)) rfl rfl ?_
  refine Wl.slLen Tryz.underlying39 rfl rfl ?_
  refine Wl.move rfl rfl ?_
  refine Wl.nil ?_
  refine Wx.then_code ?_
  refine Wc.block ?_
  refine Wc.loop (ι := Nat) (fun i => i ≤ zs.length ∧ ((zs.take i).all fun z => withinB ts z.2 (zs2.map Prod.snd)) = true) (fun i => [(2, .pointer (some ⟨b1, 0, none⟩)), (3, .pointer (some ⟨b2, 0, none⟩)), (25, .slice oz zs.length cz), (26, .int .i64 zs.length), (27, .int .i64 i)]) (fun _ => _) (fun _ => _) (fun i => zs.length - i) 0
    ⟨Nat.zero_le _, rfl⟩ (.cons rfl (.cons rfl (.cons rfl (.cons rfl (.cons rfl (.nil _)))))) rfl rfl fun i ⟨hi, hall⟩ => ?_
  refine Wc.seq ?_
  refine Wc.region ?_
  refine Wl.iLss rfl rfl rfl ?_
  refine Wl.nil ?_
  refine Wx.then_code ?_
  refine Wc.seq ?_
  refine Wc.condS rfl (fun hc4 => ?_) (fun hc4 => ?_)
  refine Wc.skip ?_
  refine Wx.then_code ?_
  refine Wc.seq ?_
  refine Wc.block ?_
  refine Wc.seq ?_
  refine Wc.region ?_
  have hlt1 : i < zs.length := by have := of_decide_eq_true hc4; omega
  have hx := List.getElem?_eq_getElem hlt1
  refine Wl.elemF sl39 rfl hz.1 rfl rfl hx rfl fun b o hseg => ?_
  refine Wl.loadGA ty24 rfl hseg rfl rfl ?_
  have hai := hz.2 _ (List.getElem_mem hlt1)
  obtain ⟨oi, ci, ei, _⟩ := hai.shape
  have hai' := hai
  rw [ei] at hai'
  rw [show PZ.enc zs[i] = [.slice oi zs[i].2.length ci] by rw [PZ.enc, ei]]
  refine Wl.alloc ty24 rfl rfl (fun b3 => ?_)
  refine Wl.storeA ty24 rfl rfl (by rfl) (by repeat (first | exact .here | apply Upd.there)) (by rfl) (by rfl) (by rfl) ?_
  refine Wl.nil ?_
  refine Wx.then_code ?_
  refine Wc.seq ?_
  refine Wc.region ?_
  refine Wl.loadOA ty24 rfl (by repeat (first | exact .here | apply Has.there)) rfl rfl ?_
  refine Wl.field fd41_1 rfl rfl ?_
  refine Wl.loadO ty39 rfl (by repeat (first | exact .here | apply Has.there)) rfl rfl ?_
  refine Wl.field fd41_0 rfl rfl ?_
  refine Wl.loadO ty25 rfl (by repeat (first | exact .here | apply Has.there)) rfl rfl ?_
  refine Wl.callV rfl rfl rfl (within_spec _ _ _ zs[i].2 zs2 ts h hai' hz2 ht (by have := hla _ (List.mem_map_of_mem (List.getElem_mem hlt1)); omega) (by omega) (fun z hz => by have := hla2 _ (List.mem_map_of_mem hz); omega) (by omega) (fun z hzm y hy => atomE_y (queryE_atoms hq2 _ (List.mem_map_of_mem hzm) y hy))) ?_
  refine Wl.not rfl rfl ?_
  refine Wl.nil ?_
  refine Wx.then_code ?_
  refine Wc.condS rfl (fun hc5 => ?_) (fun hc5 => ?_)
  refine Wc.seq ?_
  refine Wc.region ?_
  refine Wl.assign rfl rfl ?_
  refine Wl.assign rfl rfl ?_
  refine Wl.nil ?_
  refine Wx.then_code ?_
  refine Wc.ret ?_
  refine Wx.block_ret ?_
  refine Wx.then_ret ?_
  refine Wx.then_ret ?_
  refine Wx.block_ret ?_
  refine Wx.then_ret ?_
  · refine Fin.slots (L := [_, _, _]) .ret (.inl rfl) (run_tmp2 rfl rfl rfl) (Ghost.le.refl _) fun _ _ => ⟨rfl, ?_⟩
    have hb : withinB ts zs[i].2 (zs2.map Prod.snd) = false := by simpa using hc5
    rw [Bool.eq_false_iff.2 (not_all (p := fun z : Value × List Atom => withinB ts z.2 (zs2.map Prod.snd)) hx hb)]
  refine Wc.skip ?_
  refine Wx.block_normal ?_
  refine Wx.then_code ?_
  refine Wc.region ?_
  refine Wl.inc rfl rfl (by first | assumption | omega | (have hx := of_decide_eq_true hc5; omega) | (have hx := of_decide_eq_true hc4; omega) | (have hx := of_decide_eq_true hc3; omega) | (have hx := of_decide_eq_true hc2; omega)) ?_
  refine Wl.move rfl rfl ?_
  refine Wl.nil ?_
  · have hb : withinB ts zs[i].2 (zs2.map Prod.snd) = true := by simpa using hc5
    exact Wx.again (i + 1) ⟨hlt1, all_take_succ hx hall hb⟩ (by omega) (.cons rfl (.cons rfl (.cons rfl (.cons rfl (.cons rfl (.nil _)))))) rfl (.skip .refl)
  refine Wc.exit ?_
  refine Wx.then_exit ?_
  refine Wx.then_exit ?_
  refine Wx.block_exit ?_
  refine Wx.then_code ?_
  refine Wc.seq ?_
  refine Wc.region ?_
  refine Wl.assign rfl rfl ?_
  refine Wl.assign rfl rfl ?_
  refine Wl.nil ?_
  refine Wx.then_code ?_
  refine Wc.ret ?_
  refine Fin.slots (L := [_, _]) .ret (.inl rfl) (run_tmp2 rfl rfl rfl) (Ghost.le.refl _) fun _ _ => ⟨rfl, ?_⟩
  have hi' : i = zs.length := by have := of_decide_eq_false hc4; omega
  rw [hi', List.take_length] at hall
  rw [hall]
theorem Shrink_spec (tv pv : Value) (ts : List ByteArray) (l : List (List Atom)) (h : Ghost) (ht : Strs h tv ts) (hp : Parts h pv l) (g : Gl h) (hl : l.length ≤ 1000) (hlt : ts.length ≤ 1000) (hla : ∀ p ∈ l, p.length ≤ 1000) :
    SpecP Tryz.prog 13 [.agg #[tv, pv]] h fun u h' => ∃ tv2 pv2, u = .tuple #[.agg #[tv2, pv2], .int .i64 (queryE ts l)] ∧ Parts h' pv2 (if queryE ts l = 0 then shrinkL ts l else []) ∧ Strs h' tv2 (if queryE ts l = 0 then ts else []) := by
  obtain ⟨zs, rfl, hz⟩ := hp.pv
  rw [List.length_map] at hl
  have hz' := hz
  obtain ⟨oz, cz, rfl, _⟩ := hz'.shape
  obtain ⟨ot, ct, rfl, _⟩ := ht.shape
  refine SpecP.enter cl13 Tryz.func13 rfl Tryz.ntmps13 rfl fun E R => ?_
  refine Wc.seq ?_
  refine Wc.region ?_
  refine Wl.box rfl (by rfl) rfl (fun b1 => ?_)
  refine Wl.alloc ty41 rfl rfl (fun b2 => ?_)
  refine Wl.assign rfl rfl ?_
  refine Wl.nil ?_
  refine Wx.then_code ?_
  refine Wc.seq ?_
  refine Wc.seq ?_
  refine Wc.region ?_
  refine Wl.loadOA ty41 rfl (by repeat (first | exact .here | apply Has.there)) rfl rfl ?_
  refine Wl.callV rfl rfl rfl (Check_spec _ _ ts _ h 0 ht hp (by rw [List.length_map]; omega) (by omega) (fun p hp => by have := hla p hp; omega) g) ?_
  refine Wl.assign rfl rfl ?_
  refine Wl.nil ?_
  refine Wx.then_code ?_
  refine Wc.seq ?_
  refine Wc.region ?_
  refine Wl.move rfl rfl ?_
  refine Wl.iNeq rfl rfl rfl ?_
  refine Wl.nil ?_
  refine Wx.then_code ?_
  refine Wc.condS rfl (fun hc1 => ?_) (fun hc1 => ?_)
  refine Wc.seq ?_
  refine Wc.region ?_
  refine Wl.build bd41 rfl (by repeat (first | rfl | exact .nil | exact .here | apply SetL.there | apply SetLs.cons | apply FillR.cons)) rfl ?_
  refine Wl.move rfl rfl ?_
  refine Wl.storeA ty41 rfl rfl (by rfl) (by repeat (first | exact .here | apply Upd.there)) (by rfl) (by rfl) (by rfl) ?_
  refine Wl.assign rfl rfl ?_
  refine Wl.nil ?_
  refine Wx.then_code ?_
  refine Wc.ret ?_
  refine Wx.then_ret ?_
  · have h0 : queryE ts (zs.map Prod.snd) ≠ 0 := by simpa using hc1
    refine Fin.slots (L := [_, _]) .ret (.inl rfl) (run_cell_tmp rfl ty41 rfl rfl .here rfl) (Ghost.le.refl _) fun _ _ => ⟨rfl, _, _, rfl, ?_, ?_⟩
    · rw [if_neg h0]; exact Sl.nil _ _ _ _ _
    · rw [if_neg h0]; exact Sl.nil _ _ _ _ _
  have h0 : queryE ts (zs.map Prod.snd) = 0 := by simpa using hc1
  rw [if_pos h0, if_pos h0, h0]
  have hat : ∀ z ∈ zs, ∀ y ∈ z.2, y.kind = 2 ∨ y.y = emp := fun z hzm y hy => atomE_y (queryE_atoms h0 _ (List.mem_map_of_mem hzm) y hy)
  have hlen : ∀ z ∈ zs, z.2.length ≤ 1000 := fun z hzm => hla _ (List.mem_map_of_mem hzm)
  refine Wc.skip ?_
  refine Wx.then_code ?_
  refine Wc.seq ?_
  refine Wc.region ?_
  refine Wl.field fd41_0 rfl rfl ?_
  refine Wl.loadO ty25 rfl (by repeat (first | exact .here | apply Has.there)) rfl rfl ?_
  refine Wl.call (F := []) (G := _) rfl rfl rfl rfl (CloneStr_spec _ (ts.map strE) h (by
    refine ⟨fun vs hv => ?_, fun vs hv u hu => ?_⟩
    · obtain ⟨z, _, rfl⟩ := List.mem_map.1 hv; rfl
    · obtain ⟨z, hz, rfl⟩ := List.mem_map.1 hv; exact one_strE z u hu) (Sl.map ht) (by rw [List.length_map]; omega)) (.refl _) fun cl h1 F' hl1 ⟨e1, FC, hF', hrow⟩ => ?_
  subst e1 hF'
  refine Wl.frz fun g1 hg1 hFC => ?_
  have hrow : Row FC cl 9 1 ts.length (ts.flatMap strE) := by rw [List.length_map] at hrow; rwa [List.flatMap_def]
  have hcl : Strs g1 cl ts := Row.sl (fun _ => rfl) hrow rfl hFC
  obtain ⟨co, cc, rfl, hcc⟩ := hcl.shape
  refine Wl.field fd41_0 rfl rfl ?_
  refine Wl.storeF ty25 rfl rfl rfl (by repeat (first | exact .here | apply Upd.there)) (by repeat (first | exact .here | apply SetL.there)) ?_
  refine Wl.nil ?_
  refine Wx.then_code ?_
  refine Wc.seq ?_
  refine Wc.region ?_
  refine Wl.field fd41_1 rfl rfl ?_
  refine Wl.loadO ty39 rfl (by repeat (first | exact .here | apply Has.there)) rfl rfl ?_
  refine Wl.makeFunc rfl rfl rfl ?_
  refine Wl.freezeBut [] _ [_] R rfl fun g2 hg2 hF => ?_
  have hbq : Seg g2 b1 0 [.slice ot ts.length ct, .slice oz zs.length cz] := Seg.of_block (hF _ (.head _))
  have hg12 := hg1.trans hg2
  refine Wl.callP rfl rfl rfl (prunePart_spec _ zs g2 29 [.pointer (some ⟨b1, 0, none⟩)] (spareP ts) (hz.mono hg12) (by omega) fun rest x u h' hh hr hrl hrm hxm =>
    Shrink1_spec u x.1 _ _ x.2 rest ts b1 h' ((hz.2 x hxm).mono (hg12.trans hh)) hr (ht.mono (hg12.trans hh)) (hbq.mono hh) (by have := hlen x hxm; omega) (by omega) (fun z hzm => by have := hlen z (hrm z hzm); omega) (by omega) (fun z hzm => hat z (hrm z hzm))) fun kv g3 hg3 ⟨ms, hms, hmsE, hmsub⟩ => ?_
  have hkl : ms.length ≤ 1000 := by
    have e1 : ms.length = (shrinkL ts (zs.map Prod.snd)).length := by rw [shrinkL, ← hmsE, List.length_map]
    have e2 := (shrinkL_ok ts (zs.map Prod.snd)).sub.length_le
    rw [List.length_map] at e2
    omega
  obtain ⟨ko, kc, rfl, hkc⟩ := hms.shape
  refine Wl.assign rfl rfl ?_
  refine Wl.nil ?_
  refine Wx.then_code ?_
  refine Wc.seq ?_
  refine Wc.seq ?_
  refine Wc.region ?_
  refine Wl.move rfl rfl ?_
  refine Wl.slLen Tryz.underlying39 rfl rfl ?_
  refine Wl.move rfl rfl ?_
  refine Wl.nil ?_
  refine Wx.then_code ?_
  refine Wc.block ?_
  refine Wc.addNil ?_
  refine Wc.loop (ι := Nat × (Value × Frag × List (Value × List Atom)) × Ghost) (fun x => x.1 ≤ ms.length ∧ g3.le x.2.2 ∧ x.2.1.2.2.length = x.1 ∧ Row x.2.1.2.1 x.2.1.1 24 1 x.1 (x.2.1.2.2.flatMap PZ.enc) ∧ (∀ z ∈ x.2.1.2.2, Atoms x.2.2 z.1 z.2) ∧ x.2.1.2.2.map Prod.snd = (ms.take x.1).map Prod.snd)
    (fun x => [(2, .pointer (some ⟨b2, 0, none⟩)), (21, .slice ko ms.length kc), (22, .int .i64 ms.length), (23, .int .i64 x.1)]) (fun x => x.2.2) (fun x => x.2.1.2.1 :: [(b2, cells [.slice co ts.length cc, x.2.1.1] 41)] :: R) (fun x => ms.length - x.1) (0, (.slice none 0 0, [], []), g3)
    ⟨Nat.zero_le _, Ghost.le.refl _, rfl, Row.nil _ _, (fun z hz => by simp at hz), rfl⟩ (.cons rfl (.cons rfl (.cons rfl (.cons rfl (.nil _))))) rfl rfl fun ⟨i, ⟨uR, FR, ys⟩, g4⟩ ⟨hi, hg4, hyl, hR, hya, hym⟩ => ?_
  dsimp only at hi hg4 hyl hR hya hym
  obtain ⟨oR, cR, rfl⟩ := Row.shape hR
  refine Wc.seq ?_
  refine Wc.region ?_
  refine Wl.iLss rfl rfl rfl ?_
  refine Wl.nil ?_
  refine Wx.then_code ?_
  refine Wc.seq ?_
  refine Wc.condS rfl (fun hc2 => ?_) (fun hc2 => ?_)
  refine Wc.skip ?_
  refine Wx.then_code ?_
  refine Wc.seq ?_
  refine Wc.block ?_
  refine Wc.seq ?_
  refine Wc.region ?_
  have hlt1 : i < ms.length := by have := of_decide_eq_true hc2; dsimp only at this; omega
  have hx := List.getElem?_eq_getElem hlt1
  refine Wl.elemF sl39 rfl (hms.mono hg4).1 rfl rfl hx rfl fun b o hseg => ?_
  refine Wl.loadGA ty24 rfl hseg rfl rfl ?_
  have hai := (hms.mono hg4).2 _ (List.getElem_mem hlt1)
  obtain ⟨oi, ci, ei, _⟩ := hai.shape
  rw [ei] at hai
  rw [show PZ.enc ms[i] = [.slice oi ms[i].2.length ci] by rw [PZ.enc, ei]]
  have hlm : ms[i].2.length ≤ 1000 := hlen _ (hmsub _ (List.getElem_mem hlt1))
  refine Wl.alloc ty24 rfl rfl (fun b3 => ?_)
  refine Wl.storeA ty24 rfl rfl (by rfl) (by repeat (first | exact .here | apply Upd.there)) (by rfl) (by rfl) (by rfl) ?_
  refine Wl.nil ?_
  refine Wx.then_code ?_
  apply Wc.drawV (m := 9) (D := [[], [0], [], [2], [3], [4], [5], [1, 6], []]) (U := [[], [], [], [], [], [4], [], [6], []]) (V := [[], [], [], [], [], [], [], [FR], []]) (Ys := [.det _, .det (.slice oR i cR), .det _, .det (.slice oi ms[i].2.length ci), .gone (fun _ v F _ => Row F v 37 6 ms[i].2.length (ms[i].2.flatMap Atom.enc)), .rel (fun _ v F g => F = [] ∧ ∃ c, v = .agg #[c] ∧ Atoms g c ms[i].2), .gone (fun _ v F g => ∃ b c, v = .slice (some ⟨b, 0, none⟩) 1 1 ∧ F = [(b, cells [c] 24)] ∧ Atoms g c ms[i].2), .rel (fun _ v F g => ∃ c, Row F v 24 1 (i + 1) (ys.flatMap PZ.enc ++ [c]) ∧ Atoms g c ms[i].2), .det _])
  · exact follows
  · kernel_rfl
  · kernel_rfl
  · rfl
  · rfl
  · rfl
  · rfl
  · rfl
  · exact List.perm_middle (l₁ := [_])
  · skip
    apply LocVs.mk
    · intro env K' h' S' hs hd hl hY
      refine Wl.field fd41_1 (hs _ _ rfl) rfl ?_
      refine Wl.nil ?_
      exact Wx.gives0 _ (Ghost.le.refl _) ⟨rfl, rfl⟩ (Sub.refl _)
    apply LocVs.mk
    · intro env K' h' S' hs hd hl hY
      refine Wl.loadO ty39 (detL (hd 0 (by decide)) (hY 0 (by decide))) (Has.right (by repeat (first | exact .here | apply Has.there))) rfl rfl ?_
      refine Wl.nil ?_
      exact Wx.gives0 _ (Ghost.le.refl _) ⟨rfl, rfl⟩ (Sub.refl _)
    apply LocVs.mk
    · intro env K' h' S' hs hd hl hY
      refine Wl.field fd24_0 (hs _ _ rfl) rfl ?_
      refine Wl.nil ?_
      exact Wx.gives0 _ (Ghost.le.refl _) ⟨rfl, rfl⟩ (Sub.refl _)
    apply LocVs.mk
    · intro env K' h' S' hs hd hl hY
      refine Wl.loadO ty22 (detL (hd 2 (by decide)) (hY 2 (by decide))) (Has.right (by repeat (first | exact .here | apply Has.there))) rfl rfl ?_
      refine Wl.nil ?_
      exact Wx.gives0 _ (Ghost.le.refl _) ⟨rfl, rfl⟩ (Sub.refl _)
    apply LocVs.mk
    · intro env K' h' S' hs hd hl hY
      refine Wl.call (F := []) (G := _) rfl rfl (evs1 (detL (hd 3 (by decide)) (hY 3 (by decide)))) rfl (CloneAtom_spec _ (ms[i].2.map Atom.enc) h' (fitsAtoms _) (Sl.map (hai.mono hl)) (by rw [List.length_map]; omega)) (.refl _) fun cl h2 F' hl2 ⟨e2, FC, hF', hrow⟩ => ?_
      subst e2 hF'
      refine Wl.nil ?_
      exact Wx.gives _ FC (Ghost.le.refl _) (show Row FC cl 37 6 ms[i].2.length (ms[i].2.flatMap Atom.enc) by rw [List.length_map] at hrow; rwa [List.flatMap_def]) (Sub.refl _)
    apply LocVs.mk
    · intro env K' h' S' φ hs hd hl hY hU
      have y4 := hU 4 (by decide); have e4 := hd 4 (by decide)
      refine Wl.frz (F := φ 4) fun g5 hg5 hF4 => ?_
      have hy4 : Atoms g5 (env 4) ms[i].2 := Row.sl (fun _ => rfl) y4 rfl hF4
      obtain ⟨o4, c4, hv4⟩ := Row.shape y4
      rw [hv4] at e4 hy4
      refine Wl.build bd24 (evP1 e4) (by repeat (first | rfl | exact .nil | exact .here | apply SetL.there | apply SetLs.cons | apply FillR.cons)) rfl ?_
      refine Wl.nil ?_
      exact Wx.gives0 _ hg5 ⟨rfl, _, rfl, hy4⟩ (Sub.refl _)
    apply LocVs.mk
    · intro env K' h' S' hs hd hl hY
      obtain ⟨F5, y5⟩ := hY 5 (by decide); have e5 := hd 5 (by decide)
      obtain ⟨c5, hv5, hy5⟩ := y5.2
      rw [hv5] at e5
      obtain ⟨o5, cc5, hc5, _⟩ := hy5.shape
      subst hc5
      refine Wl.buildSlice sl39 (evs1 e5) rfl rfl (by repeat (first | rfl | exact .nil | apply Cellss.cons)) rfl rfl rfl (fun b6 => ?_)
      refine Wl.nil ?_
      exact Wx.gives _ _ (Ghost.le.refl _) ⟨b6, _, rfl, rfl, hy5⟩ (Sub.refl _)
    apply LocVs.mk
    · intro env K' h' S' φ hs hd hl hY hU
      have y6 := hU 6 (by decide); have e6 := hd 6 (by decide)
      obtain ⟨b6, c6, hv6, hF6, hy6⟩ := y6
      rw [hv6] at e6
      show Wl _ _ _ _ _ _ _ _ (φ 6 :: FR :: (S' ++ _))
      rw [hF6]
      obtain ⟨o6, cc6, hc6, _⟩ := hy6.shape
      refine Wl.append (F := FR) [_] _ [c6] sl39 (detL (hd 1 (by decide)) (hY 1 (by decide) (by decide))) e6 rfl hR rfl rfl (srcO rfl .here (fun j u hj => by rw [Nat.zero_add]; exact hj)) (fun u hu => by rw [List.mem_singleton.1 hu, hc6]; rfl) (by omega) (by omega) fun v' F' hrow => ?_
      refine Wl.drop ?_
      refine Wl.nil ?_
      exact Wx.gives _ F' (Ghost.le.refl _) ⟨c6, hrow, hy6⟩ (Sub.refl _)
    apply LocVs.mk
    · intro env K' h' S' hs hd hl hY
      refine Wl.field fd41_1 (hs _ _ rfl) rfl ?_
      refine Wl.nil ?_
      exact Wx.gives0 _ (Ghost.le.refl _) ⟨rfl, rfl⟩ (Sub.refl _)
    trivial
  · exact ⟨trivial, trivial, trivial, trivial, (fun _ _ _ _ _ _ H => H), (fun _ _ _ _ _ hl H => ⟨H.1, let ⟨c, e, r⟩ := H.2; ⟨c, e, r.mono hl⟩⟩), (fun _ _ _ _ _ hl H => let ⟨b, c, e1, e2, r⟩ := H; ⟨b, c, e1, e2, r.mono hl⟩), (fun _ _ _ _ _ hl H => let ⟨c, e, r⟩ := H; ⟨c, e, r.mono hl⟩), trivial, trivial⟩
  intro h' hl'
  intro v4
  intro v5 F5 y5
  intro v6
  intro v7 F7 y7
  show Wl _ _ _ [_] _ ((35, _) :: (34, _) :: (33, _) :: (32, _) :: (31, _) :: (30, _) :: (29, _) :: (28, _) :: (27, _) :: _) _ _ _
  obtain ⟨c7, hr7, ha7⟩ := y7
  obtain ⟨o7, cc7, rfl⟩ := Row.shape hr7
  obtain ⟨rfl, _⟩ := y5
  refine Wl.storeF ty39 rfl rfl rfl (by repeat (first | exact .here | apply Upd.there)) (by repeat (first | exact .here | apply SetL.there)) ?_
  refine Wl.nil ?_
  refine Wx.block_normal ?_
  refine Wx.then_code ?_
  refine Wc.region ?_
  refine Wl.inc rfl rfl (by first | assumption | omega | (have hx := of_decide_eq_true hc2; omega) | (have hx := of_decide_eq_true hc1; omega)) ?_
  refine Wl.move rfl rfl ?_
  refine Wl.nil ?_
  · refine Wx.again (i + 1, (.slice o7 (i + 1) cc7, F7, ys ++ [(c7, ms[i].2)]), h') ⟨hlt1, hg4.trans hl', ?_, ?_, fun z hzm => ?_, ?_⟩ (show ms.length - (i + 1) < ms.length - i by omega) (.cons rfl (.cons rfl (.cons rfl (.cons rfl (.nil _))))) rfl (.keep (.skip (.skip .refl)))
    · simp [hyl]
    · rw [List.flatMap_append]; simpa [PZ.enc] using hr7
    · rcases List.mem_append.1 hzm with hzm | hzm
      · exact (hya z hzm).mono hl'
      · have : z = (c7, ms[i].2) := by simpa using hzm
        subst this; exact ha7
    · dsimp only
      rw [List.map_append, hym, List.take_add_one, hx, List.map_append]; rfl
  refine Wc.exit ?_
  refine Wx.then_exit ?_
  refine Wx.then_exit ?_
  refine Wx.block_exit ?_
  refine Wx.then_code ?_
  refine Wc.seq ?_
  refine Wc.region ?_
  refine Wl.loadOA ty41 rfl (by repeat (first | exact .here | apply Has.there)) rfl rfl ?_
  refine Wl.storeA ty41 rfl rfl (by rfl) (by repeat (first | exact .here | apply Upd.there)) (by rfl) (by rfl) (by rfl) ?_
  refine Wl.assign rfl rfl ?_
  refine Wl.nil ?_
  refine Wx.then_code ?_
  refine Wc.ret ?_
  have hi' : i = ms.length := by have := of_decide_eq_false hc2; dsimp only at this; omega
  subst hi'
  refine Fin.slots (L := [FR, _]) .ret (.inl rfl) (run_cell_tmp rfl ty41 rfl rfl (.there .here) rfl) ((hg12.trans hg3).trans hg4) fun hL hle => ⟨rfl, _, _, rfl, ?_, hcl.mono (((hg2.trans hg3).trans hg4).trans hle)⟩
  rw [List.take_length] at hym
  have e : shrinkL ts (zs.map Prod.snd) = ys.map Prod.snd := by rw [hym, hmsE]; rfl
  rw [e]
  refine PV.parts ⟨Row.sl (fun _ => rfl) hR hyl.symm fun p hp => hL p (by simp [hp]), fun z hzm => (hya z hzm).mono hle⟩
theorem FewQuery_spec (tv pv : Value) (ts : List ByteArray) (l : List (List Atom)) (h : Ghost) (ht : Strs h tv ts) (hp : Parts h pv l) :
    SpecP Tryz.prog 12 [.agg #[tv, pv]] h fun u _ => ∃ b, u = .bool b ∧ (b = true → l.length ≤ 5 ∧ ts.length ≤ 5 ∧ ∀ p ∈ l, p.length ≤ 6) := by
  obtain ⟨zs, rfl, hz⟩ := hp.pv
  have hz' := hz
  obtain ⟨oz, cz, rfl, _⟩ := hz'.shape
  obtain ⟨ot, ct, rfl, _⟩ := ht.shape
  refine SpecP.enter cl12 Tryz.func12 rfl Tryz.ntmps12 rfl fun E R => ?_
  refine Wc.seq ?_
  refine Wc.region ?_
  refine Wl.box rfl (by rfl) rfl (fun b1 => ?_)
  refine Wl.assign rfl rfl ?_
  refine Wl.nil ?_
  refine Wx.then_code ?_
  refine Wc.seq ?_
  refine Wc.seq ?_
  refine Wc.region ?_
  refine Wl.field fd41_1 rfl rfl ?_
  refine Wl.loadO ty39 rfl (by repeat (first | exact .here | apply Has.there)) rfl rfl ?_
  refine Wl.slLen Tryz.underlying39 rfl rfl ?_
  refine Wl.iGtr rfl rfl rfl ?_
  refine Wl.move rfl rfl ?_
  apply Wl.orB (l1 := [_, _, _, _, _]) (i := 9) (d := 14)
  · rfl
  · intro hg1
    refine Wl.guardNo rfl rfl rfl rfl ?_
    refine Wl.guardNo rfl rfl rfl rfl ?_
    refine Wl.guardNo rfl rfl rfl rfl ?_
    refine Wl.guardNo rfl rfl rfl rfl ?_
    refine Wl.pickT rfl rfl rfl ?_
    refine Wl.nil ?_
    exact Wx.reach (.cons rfl (.skip rfl (.skip rfl (.skip rfl (.skip rfl (.skip rfl (.same rfl (by rw [hg1]) (.refl _))))))))
  · intro hg1
    refine Wl.guardYes rfl rfl ?_
    refine Wl.field fd41_0 rfl rfl ?_
    refine Wl.guardYes rfl rfl ?_
    refine Wl.loadO ty25 rfl (by repeat (first | exact .here | apply Has.there)) rfl rfl ?_
    refine Wl.guardYes rfl rfl ?_
    refine Wl.slLen Tryz.underlying25 rfl rfl ?_
    refine Wl.guardYes rfl rfl ?_
    refine Wl.iGtr rfl rfl rfl ?_
    refine Wl.pickF rfl rfl rfl ?_
    refine Wl.nil ?_
    exact Wx.reach (.cons rfl (.skip rfl (.skip rfl (.skip rfl (.skip rfl (.skip rfl (.same rfl (by rw [hg1]) (.refl _))))))))
  refine Wl.nil ?_
  refine Wx.then_code ?_
  refine Wc.condS rfl (fun hc2 => ?_) (fun hc2 => ?_)
  refine Wc.seq ?_
  refine Wc.region ?_
  refine Wl.assign rfl rfl ?_
  refine Wl.nil ?_
  refine Wx.then_code ?_
  refine Wc.ret ?_
  refine Wx.then_ret ?_
  · exact Fin.slots (L := [_]) .ret (.inl rfl) (run_tmp rfl rfl) (Ghost.le.refl _) fun _ _ => ⟨rfl, _, rfl, fun h => by cases h⟩
  have h5 : zs.length ≤ 5 ∧ ts.length ≤ 5 := by simp at hc2; omega
  refine Wc.skip ?_
  refine Wx.then_code ?_
  refine Wc.seq ?_
  refine Wc.seq ?_
  refine Wc.region ?_
  refine Wl.assign rfl rfl ?_
  refine Wl.nil ?_
  refine Wx.then_code ?_
  refine Wc.block ?_
  refine Wc.loop (ι := Nat) (fun i => i ≤ zs.length ∧ ((zs.take i).all fun z => fewB z.2) = true) (fun i => [(1, .pointer (some ⟨b1, 0, none⟩)), (3, .int .i64 i)]) (fun _ => _) (fun _ => _) (fun i => zs.length - i) 0
    ⟨Nat.zero_le _, rfl⟩ (.cons rfl (.cons rfl (.nil _))) rfl rfl fun i ⟨hi, hall⟩ => ?_
  refine Wc.seq ?_
  refine Wc.seq ?_
  refine Wc.region ?_
  refine Wl.move rfl rfl ?_
  refine Wl.field fd41_1 rfl rfl ?_
  refine Wl.loadO ty39 rfl (by repeat (first | exact .here | apply Has.there)) rfl rfl ?_
  refine Wl.slLen Tryz.underlying39 rfl rfl ?_
  refine Wl.iLss rfl rfl rfl ?_
  refine Wl.nil ?_
  refine Wx.then_code ?_
  refine Wc.condS rfl (fun hc3 => ?_) (fun hc3 => ?_)
  refine Wc.skip ?_
  refine Wx.then_code ?_
  refine Wc.seq ?_
  refine Wc.block ?_
  refine Wc.seq ?_
  refine Wc.region ?_
  refine Wl.field fd41_1 rfl rfl ?_
  refine Wl.loadO ty39 rfl (by repeat (first | exact .here | apply Has.there)) rfl rfl ?_
  refine Wl.move rfl rfl ?_
  have hlt1 : i < zs.length := by have := of_decide_eq_true hc3; omega
  have hx := List.getElem?_eq_getElem hlt1
  refine Wl.elemF sl39 rfl hz.1 rfl rfl hx rfl fun b o hseg => ?_
  refine Wl.loadGA ty24 rfl hseg rfl rfl ?_
  refine Wl.callV rfl rfl rfl (Few_spec _ zs[i].2 h (hz.2 _ (List.getElem_mem hlt1))) ?_
  refine Wl.not rfl rfl ?_
  refine Wl.nil ?_
  refine Wx.then_code ?_
  refine Wc.condS rfl (fun hc4 => ?_) (fun hc4 => ?_)
  refine Wc.seq ?_
  refine Wc.region ?_
  refine Wl.assign rfl rfl ?_
  refine Wl.nil ?_
  refine Wx.then_code ?_
  refine Wc.ret ?_
  refine Wx.block_ret ?_
  refine Wx.then_ret ?_
  refine Wx.then_ret ?_
  refine Wx.block_ret ?_
  refine Wx.then_ret ?_
  · exact Fin.slots (L := [_]) .ret (.inl rfl) (run_tmp rfl rfl) (Ghost.le.refl _) fun _ _ => ⟨rfl, _, rfl, fun h => by cases h⟩
  refine Wc.skip ?_
  refine Wx.block_normal ?_
  refine Wx.then_code ?_
  refine Wc.region ?_
  refine Wl.move rfl rfl ?_
  refine Wl.inc rfl rfl (by first | assumption | omega | (have hx := of_decide_eq_true hc4; omega) | (have hx := of_decide_eq_true hc3; omega) | (have hx := of_decide_eq_true hc2; omega)) ?_
  refine Wl.assign rfl rfl ?_
  refine Wl.nil ?_
  · exact Wx.again (i + 1) ⟨hlt1, all_take_succ hx hall (by simpa using hc4)⟩ (by omega) (.cons rfl (.cons rfl (.nil _))) rfl .refl
  refine Wc.exit ?_
  refine Wx.then_exit ?_
  refine Wx.then_exit ?_
  refine Wx.block_exit ?_
  refine Wx.then_code ?_
  refine Wc.seq ?_
  refine Wc.seq ?_
  refine Wc.region ?_
  refine Wl.assign rfl rfl ?_
  refine Wl.nil ?_
  refine Wx.then_code ?_
  refine Wc.block ?_
  have hfew : ∀ p ∈ zs.map Prod.snd, p.length ≤ 6 := fun p hp => by
    have hi' : i = zs.length := by have := of_decide_eq_false hc3; omega
    rw [hi', List.take_length] at hall
    obtain ⟨z, hz, rfl⟩ := List.mem_map.1 hp
    exact fewB_le (List.all_eq_true.1 hall z hz)
  refine Wc.loop (ι := Nat) (fun i => i ≤ ts.length) (fun i => [(1, .pointer (some ⟨b1, 0, none⟩)), (4, .int .i64 i)]) (fun _ => _) (fun _ => _) (fun i => ts.length - i) 0
    (Nat.zero_le _) (.cons rfl (.cons rfl (.nil _))) rfl rfl fun i hi => ?_
  refine Wc.seq ?_
  refine Wc.seq ?_
  refine Wc.region ?_
  refine Wl.move rfl rfl ?_
  refine Wl.field fd41_0 rfl rfl ?_
  refine Wl.loadO ty25 rfl (by repeat (first | exact .here | apply Has.there)) rfl rfl ?_
  refine Wl.slLen Tryz.underlying25 rfl rfl ?_
  refine Wl.iLss rfl rfl rfl ?_
  refine Wl.nil ?_
  refine Wx.then_code ?_
  refine Wc.condS rfl (fun hc5 => ?_) (fun hc5 => ?_)
  refine Wc.skip ?_
  refine Wx.then_code ?_
  refine Wc.seq ?_
  refine Wc.block ?_
  refine Wc.seq ?_
  refine Wc.region ?_
  refine Wl.field fd41_0 rfl rfl ?_
  refine Wl.loadO ty25 rfl (by repeat (first | exact .here | apply Has.there)) rfl rfl ?_
  refine Wl.move rfl rfl ?_
  have hlt2 : i < ts.length := by have := of_decide_eq_true hc5; omega
  have hx2 := List.getElem?_eq_getElem hlt2
  refine Wl.elemF sl25 rfl ht rfl rfl hx2 rfl fun b o hseg => ?_
  refine Wl.loadG1 ty9 rfl hseg rfl ?_
  refine Wl.sLen Tryz.underlying9 rfl rfl ?_
  refine Wl.iGtr rfl rfl rfl ?_
  refine Wl.nil ?_
  refine Wx.then_code ?_
  refine Wc.condS rfl (fun hc6 => ?_) (fun hc6 => ?_)
  refine Wc.seq ?_
  refine Wc.region ?_
  refine Wl.assign rfl rfl ?_
  refine Wl.nil ?_
  refine Wx.then_code ?_
  refine Wc.ret ?_
  refine Wx.block_ret ?_
  refine Wx.then_ret ?_
  refine Wx.then_ret ?_
  refine Wx.block_ret ?_
  refine Wx.then_ret ?_
  · exact Fin.slots (L := [_]) .ret (.inl rfl) (run_tmp rfl rfl) (Ghost.le.refl _) fun _ _ => ⟨rfl, _, rfl, fun h => by cases h⟩
  refine Wc.skip ?_
  refine Wx.block_normal ?_
  refine Wx.then_code ?_
  refine Wc.region ?_
  refine Wl.move rfl rfl ?_
  refine Wl.inc rfl rfl (by first | assumption | omega | (have hx := of_decide_eq_true hc6; omega) | (have hx := of_decide_eq_true hc5; omega) | (have hx := of_decide_eq_true hc3; omega) | (have hx := of_decide_eq_true hc2; omega)) ?_
  refine Wl.assign rfl rfl ?_
  refine Wl.nil ?_
  · exact Wx.again (i + 1) hlt2 (by omega) (.cons rfl (.cons rfl (.nil _))) rfl .refl
  refine Wc.exit ?_
  refine Wx.then_exit ?_
  refine Wx.then_exit ?_
  refine Wx.block_exit ?_
  refine Wx.then_code ?_
  refine Wc.seq ?_
  refine Wc.region ?_
  refine Wl.assign rfl rfl ?_
  refine Wl.nil ?_
  refine Wx.then_code ?_
  refine Wc.ret ?_
  exact Fin.slots (L := [_]) .ret (.inl rfl) (run_tmp rfl rfl) (Ghost.le.refl _) fun _ _ => ⟨rfl, _, rfl, fun _ => ⟨by rw [List.length_map]; omega, h5.2, hfew⟩⟩
end Go.Proofs.YtgpmjggdloldnaaGreatDoor

namespace Go.Proofs.YtgpmjggdloldnaaGreatDoor
open Go Go.Sx
set_option maxRecDepth 100000
theorem evs3 {K : List (Nat × Value)} {x y z : Operand} {u v w : Value} (h1 : ev K x = some u) (h2 : ev K y = some v) (h3 : ev K z = some w) : evs K [x, y, z] = some [u, v, w] := by simp [evs, h1, h2, h3]
theorem sub_skip {α : Type} {l m : List α} {i k : Nat} {x y : α} (hx : l[i]? = some x) (hy : m[k]? = some y) (h : (l.drop i).Sublist (m.drop k)) (hne : y ≠ x) : (l.drop i).Sublist (m.drop (k + 1)) := by
  obtain ⟨hi, ex⟩ := List.getElem?_eq_some_iff.1 hx
  obtain ⟨hk, ey⟩ := List.getElem?_eq_some_iff.1 hy
  rw [List.drop_eq_getElem_cons hi, List.drop_eq_getElem_cons hk, ex, ey] at h
  rw [List.drop_eq_getElem_cons hi, ex]
  cases h with
  | cons _ h => exact h
  | cons_cons _ h => exact absurd rfl hne
theorem sub_next {α : Type} {l m : List α} {i k : Nat} {x y : α} (hx : l[i]? = some x) (hy : m[k]? = some y) (h : (l.drop i).Sublist (m.drop k)) : (l.drop (i + 1)).Sublist (m.drop (k + 1)) := by
  obtain ⟨hi, ex⟩ := List.getElem?_eq_some_iff.1 hx
  obtain ⟨hk, ey⟩ := List.getElem?_eq_some_iff.1 hy
  rw [List.drop_eq_getElem_cons hi, List.drop_eq_getElem_cons hk, ex, ey] at h
  cases h with
  | cons _ h => exact (List.sublist_cons_self _ _).trans h
  | cons_cons _ h => exact h
set_option maxHeartbeats 2000000 in
theorem ContainShrink_spec (tv pv : Value) (ts : List ByteArray) (l : List (List Atom)) (h : Ghost) (ht : Strs h tv ts) (hp : Parts h pv l) (g : Gl h) :
    SpecV Tryz.prog 5 [.agg #[tv, pv]] h (.bool true) := by
  obtain ⟨zs, rfl, hz⟩ := hp.pv
  have hz' := hz
  obtain ⟨oz, cz, rfl, _⟩ := hz'.shape
  obtain ⟨ot, ct, rfl, _⟩ := ht.shape
  refine SpecP.enter cl5 Tryz.func5 rfl Tryz.ntmps5 rfl fun E R => ?_
  refine Wc.seq ?_
  refine Wc.region ?_
  refine Wl.box rfl (by rfl) rfl (fun b1 => ?_)
  refine Wl.assign rfl rfl ?_
  refine Wl.nil ?_
  refine Wx.then_code ?_
  refine Wc.seq ?_
  refine Wc.seq ?_
  refine Wc.region ?_
  refine Wl.callV rfl rfl rfl (sane_spec h g) ?_
  refine Wl.not rfl rfl ?_
  refine Wl.nil ?_
  refine Wx.then_code ?_
  refine Wc.condS rfl (fun hc1 => ?_) (fun hc1 => ?_)
  refine Wc.seq ?_
  refine Wc.region ?_
  refine Wl.assign rfl rfl ?_
  refine Wl.nil ?_
  refine Wx.then_code ?_
  refine Wc.ret ?_
  refine Wx.then_ret ?_
  · exact absurd hc1 (by decide)
  refine Wc.skip ?_
  refine Wx.then_code ?_
  refine Wc.seq ?_
  refine Wc.seq ?_
  refine Wc.region ?_
  refine Wl.loadOA ty41 rfl (by repeat (first | exact .here | apply Has.there)) rfl rfl ?_
  refine Wl.callP rfl rfl rfl (FewQuery_spec _ _ ts _ h ht hp) fun u h1 hl1 ⟨fb, hu, hfew⟩ => ?_
  subst hu
  refine Wl.not rfl rfl ?_
  refine Wl.nil ?_
  refine Wx.then_code ?_
  refine Wc.condS rfl (fun hc2 => ?_) (fun hc2 => ?_)
  refine Wc.seq ?_
  refine Wc.region ?_
  refine Wl.assign rfl rfl ?_
  refine Wl.nil ?_
  refine Wx.then_code ?_
  refine Wc.ret ?_
  refine Wx.then_ret ?_
  · exact endV .ret (.inl rfl) rfl rfl [_] hl1 rfl
  obtain ⟨hfl, hft, hfp⟩ := hfew (by simpa using hc2)
  have hfl' : zs.length ≤ 5 := by rw [List.length_map] at hfl; exact hfl
  refine Wc.skip ?_
  refine Wx.then_code ?_
  refine Wc.seq ?_
  refine Wc.region ?_
  refine Wl.loadOA ty41 rfl (by repeat (first | exact .here | apply Has.there)) rfl rfl ?_
  refine Wl.callP rfl rfl rfl (Shrink_spec _ _ ts _ h1 (ht.mono hl1) (hp.mono hl1) (g.mono hl1) (by omega) (by omega) (fun p hp => by have := hfp p hp; omega)) fun u h2 hl2 ⟨tv2, pv2, hu, hP2, hT2⟩ => ?_
  subst hu
  obtain ⟨X, hX⟩ : ∃ X, X = if queryE ts (zs.map Prod.snd) = 0 then shrinkL ts (zs.map Prod.snd) else [] := ⟨_, rfl⟩
  rw [← hX] at hP2
  obtain ⟨Ts, hTs⟩ : ∃ Ts, (if queryE ts (zs.map Prod.snd) = 0 then ts else []) = Ts := ⟨_, rfl⟩
  rw [hTs] at hT2
  obtain ⟨ys, hys, hy⟩ := hP2.pv
  have hy' := hy
  obtain ⟨ox, cx, rfl, hcx⟩ := hy'.shape
  obtain ⟨o2, c2, rfl, _⟩ := hT2.shape
  refine Wl.move rfl rfl ?_
  refine Wl.extract rfl rfl rfl ?_
  refine Wl.extract rfl rfl rfl ?_
  refine Wl.alloc ty41 rfl rfl (fun b2 => ?_)
  refine Wl.storeA ty41 rfl rfl (by rfl) (by repeat (first | exact .here | apply Upd.there)) (by rfl) (by rfl) (by rfl) ?_
  refine Wl.assign rfl rfl ?_
  refine Wl.nil ?_
  refine Wx.then_code ?_
  refine Wc.seq ?_
  refine Wc.seq ?_
  refine Wc.region ?_
  refine Wl.move rfl rfl ?_
  refine Wl.iNeq rfl rfl rfl ?_
  refine Wl.nil ?_
  refine Wx.then_code ?_
  refine Wc.condS rfl (fun hc3 => ?_) (fun hc3 => ?_)
  refine Wc.seq ?_
  refine Wc.region ?_
  refine Wl.field fd41_1 rfl rfl ?_
  refine Wl.loadO ty39 rfl (by repeat (first | exact .here | apply Has.there)) rfl rfl ?_
  refine Wl.slLen Tryz.underlying39 rfl rfl ?_
  refine Wl.iEql rfl rfl rfl ?_
  refine Wl.assign rfl rfl ?_
  refine Wl.nil ?_
  refine Wx.then_code ?_
  refine Wc.ret ?_
  refine Wx.then_ret ?_
  · have h0 : queryE ts (zs.map Prod.snd) ≠ 0 := by simpa using hc3
    rw [if_neg h0] at hX
    have hy0 : ys = [] := by rw [hX] at hys; simpa using hys
    exact endV .ret (.inl rfl) rfl rfl [_, _] (hl1.trans hl2) (by rw [hy0]; rfl)
  have h0 : queryE ts (zs.map Prod.snd) = 0 := by simpa using hc3
  rw [if_pos h0] at hX hTs
  subst hTs
  have sh := shrinkL_ok ts (zs.map Prod.snd)
  rw [← hX] at sh
  have hlX : ys.length ≤ 5 := by have := sh.sub.length_le; rw [← hys, List.length_map, List.length_map] at this; omega
  have hneX : X ≠ [] := by
    have := (queryE_iff.1 h0).low
    obtain ⟨p0, hp0⟩ := List.exists_mem_of_length_pos (show 0 < (zs.map Prod.snd).length by omega)
    obtain ⟨y, hy, _⟩ := sh.cover p0 hp0
    exact List.ne_nil_of_mem hy
  have hqX : queryE ts X = 0 := query_sub h0 sh.sub hneX
  have hlp : ∀ p ∈ X, p.length ≤ 6 := fun p hp => hfp p (sh.sub.subset hp)
  have hl12 := hl1.trans hl2
  have hp2 := hp.mono hl12
  have ht2 := ht.mono hl12
  have g2 := g.mono hl12
  refine Wc.skip ?_
  refine Wx.then_code ?_
  refine Wc.seq ?_
  refine Wc.region ?_
  refine Wl.loadOA ty41 rfl (by repeat (first | exact .here | apply Has.there)) rfl rfl ?_
  refine Wl.loadOA ty41 rfl (by repeat (first | exact .here | apply Has.there)) rfl rfl ?_
  have q1 : queryB ts X (zs.map Prod.snd) = true := queryB_iff.2 fun p hp => ⟨p, sh.sub.subset hp, hom_sub fun _ h => h⟩
  have q2 : queryB ts (zs.map Prod.snd) X = true := queryB_iff.2 sh.cover
  refine Wl.callV rfl rfl rfl (Query_spec _ _ _ _ ts ts X _ h2 hT2 hP2 ht2 hp2 g2 (by rw [← hys, List.length_map]; omega) (by rw [List.length_map]; omega) (by omega) (by omega) (fun p hp => by have := hlp p hp; omega) (fun p hp => by have := hfp p hp; omega) hqX h0 rfl) ?_
  rw [q1]
  refine Wl.move rfl rfl ?_
  refine Wl.extract rfl rfl rfl ?_
  refine Wl.extract rfl rfl rfl ?_
  refine Wl.assign rfl rfl ?_
  refine Wl.assign rfl rfl ?_
  refine Wl.nil ?_
  refine Wx.then_code ?_
  refine Wc.seq ?_
  refine Wc.region ?_
  refine Wl.loadOA ty41 rfl (by repeat (first | exact .here | apply Has.there)) rfl rfl ?_
  refine Wl.loadOA ty41 rfl (by repeat (first | exact .here | apply Has.there)) rfl rfl ?_
  refine Wl.callV rfl rfl rfl (Query_spec _ _ _ _ ts ts _ X h2 ht2 hp2 hT2 hP2 g2 (by rw [List.length_map]; omega) (by rw [← hys, List.length_map]; omega) (by omega) (by omega) (fun p hp => by have := hfp p hp; omega) (fun p hp => by have := hlp p hp; omega) h0 hqX rfl) ?_
  rw [q2]
  refine Wl.move rfl rfl ?_
  refine Wl.extract rfl rfl rfl ?_
  refine Wl.extract rfl rfl rfl ?_
  refine Wl.assign rfl rfl ?_
  refine Wl.assign rfl rfl ?_
  refine Wl.nil ?_
  refine Wx.then_code ?_
  refine Wc.seq ?_
  refine Wc.seq ?_
  refine Wc.region ?_
  refine Wl.move rfl rfl ?_
  refine Wl.iNeq rfl rfl rfl ?_
  refine Wl.move rfl rfl ?_
  apply Wl.orB (l1 := [_, _, _]) (i := 44) (d := 47)
  · rfl
  · intro hg4
    refine Wl.guardNo rfl rfl rfl rfl ?_
    refine Wl.guardNo rfl rfl rfl rfl ?_
    refine Wl.pickT rfl rfl rfl ?_
    refine Wl.nil ?_
    exact Wx.reach (.cons rfl (.skip rfl (.skip rfl (.skip rfl (.same rfl (by rw [hg4]) (.refl _))))))
  · intro hg4
    refine Wl.guardYes rfl rfl ?_
    refine Wl.move rfl rfl ?_
    refine Wl.guardYes rfl rfl ?_
    refine Wl.iNeq rfl rfl rfl ?_
    refine Wl.pickF rfl rfl rfl ?_
    refine Wl.nil ?_
    exact Wx.reach (.cons rfl (.skip rfl (.skip rfl (.skip rfl (.same rfl (by rw [hg4]) (.refl _))))))
  refine Wl.move rfl rfl ?_
  apply Wl.orB (l1 := [_, _, _]) (i := 48) (d := 51)
  · rfl
  · intro hg5
    refine Wl.guardNo rfl rfl rfl rfl ?_
    refine Wl.guardNo rfl rfl rfl rfl ?_
    refine Wl.pickT rfl rfl rfl ?_
    refine Wl.nil ?_
    exact Wx.reach (.cons rfl (.skip rfl (.skip rfl (.skip rfl (.same rfl (by rw [hg5]) (.refl _))))))
  · intro hg5
    refine Wl.guardYes rfl rfl ?_
    refine Wl.move rfl rfl ?_
    refine Wl.guardYes rfl rfl ?_
    refine Wl.not rfl rfl ?_
    refine Wl.pickF rfl rfl rfl ?_
    refine Wl.nil ?_
    exact Wx.reach (.cons rfl (.skip rfl (.skip rfl (.skip rfl (.same rfl (by rw [hg5]) (.refl _))))))
  refine Wl.move rfl rfl ?_
  apply Wl.orB (l1 := [_, _, _]) (i := 52) (d := 55)
  · rfl
  · intro hg6
    refine Wl.guardNo rfl rfl rfl rfl ?_
    refine Wl.guardNo rfl rfl rfl rfl ?_
    refine Wl.pickT rfl rfl rfl ?_
    refine Wl.nil ?_
    exact Wx.reach (.cons rfl (.skip rfl (.skip rfl (.skip rfl (.same rfl (by rw [hg6]) (.refl _))))))
  · intro hg6
    refine Wl.guardYes rfl rfl ?_
    refine Wl.move rfl rfl ?_
    refine Wl.guardYes rfl rfl ?_
    refine Wl.not rfl rfl ?_
    refine Wl.pickF rfl rfl rfl ?_
    refine Wl.nil ?_
    exact Wx.reach (.cons rfl (.skip rfl (.skip rfl (.skip rfl (.same rfl (by rw [hg6]) (.refl _))))))
  refine Wl.move rfl rfl ?_
  apply Wl.orB (l1 := [_, _, _, _, _]) (i := 56) (d := 61)
  · rfl
  · intro hg7
    refine Wl.guardNo rfl rfl rfl rfl ?_
    refine Wl.guardNo rfl rfl rfl rfl ?_
    refine Wl.guardNo rfl rfl rfl rfl ?_
    refine Wl.guardNo rfl rfl rfl rfl ?_
    refine Wl.pickT rfl rfl rfl ?_
    refine Wl.nil ?_
    exact Wx.reach (.cons rfl (.skip rfl (.skip rfl (.skip rfl (.skip rfl (.skip rfl (.same rfl (by rw [hg7]) (.refl _))))))))
  · intro hg7
    refine Wl.guardYes rfl rfl ?_
    refine Wl.field fd41_1 rfl rfl ?_
    refine Wl.guardYes rfl rfl ?_
    refine Wl.loadO ty39 rfl (by repeat (first | exact .here | apply Has.there)) rfl rfl ?_
    refine Wl.guardYes rfl rfl ?_
    refine Wl.slLen Tryz.underlying39 rfl rfl ?_
    refine Wl.guardYes rfl rfl ?_
    refine Wl.iEql rfl rfl rfl ?_
    refine Wl.pickF rfl rfl rfl ?_
    refine Wl.nil ?_
    exact Wx.reach (.cons rfl (.skip rfl (.skip rfl (.skip rfl (.skip rfl (.skip rfl (.same rfl (by rw [hg7]) (.refl _))))))))
  refine Wl.nil ?_
  refine Wx.then_code ?_
  refine Wc.condS rfl (fun hc8 => ?_) (fun hc8 => ?_)
  refine Wc.seq ?_
  refine Wc.region ?_
  refine Wl.assign rfl rfl ?_
  refine Wl.nil ?_
  refine Wx.then_code ?_
  refine Wc.ret ?_
  refine Wx.then_ret ?_
  · have : ((ys.length : Int) == 0) = false := by
      have h1 : ys ≠ [] := by rintro rfl; exact hneX hys.symm
      have := List.length_pos_iff.2 h1
      simp; omega
    rw [this] at hc8
    exact absurd hc8 (by decide)
  refine Wc.skip ?_
  refine Wx.then_code ?_
  refine Wc.seq ?_
  refine Wc.region ?_
  refine Wl.assign rfl rfl ?_
  refine Wl.nil ?_
  refine Wx.then_code ?_
  refine Wc.seq ?_
  refine Wc.seq ?_
  refine Wc.region ?_
  refine Wl.assign rfl rfl ?_
  refine Wl.nil ?_
  refine Wx.then_code ?_
  refine Wc.block ?_
  have hsubZ : ∀ i k : Nat, (X.drop i).Sublist ((zs.map Prod.snd).drop k) → i < X.length → k < zs.length := fun i k hs hi => by
    have := hs.length_le
    simp only [List.length_drop, List.length_map] at this
    omega
  have hXl : X.length = ys.length := by rw [← hys, List.length_map]
  refine Wc.loop (ι := Nat × Nat × Ghost) (fun x => x.1 ≤ ys.length ∧ h2.le x.2.2 ∧ x.2.1 ≤ zs.length ∧ (X.drop x.1).Sublist ((zs.map Prod.snd).drop x.2.1)) (fun x => [(1, .pointer (some ⟨b1, 0, none⟩)), (3, .pointer (some ⟨b2, 0, none⟩)), (9, .int .i64 x.2.1), (10, .int .i64 x.1)]) (fun x => x.2.2) (fun _ => _) (fun x => ys.length - x.1) (0, 0, h2)
    ⟨Nat.zero_le _, Ghost.le.refl _, Nat.zero_le _, sh.sub⟩ (.cons rfl (.cons rfl (.cons rfl (.cons rfl (.nil _))))) rfl rfl fun ⟨i, q, g3⟩ ⟨hi, hg3, hq, hsub⟩ => ?_
  dsimp only at hi hg3 hq hsub
  refine Wc.seq ?_
  refine Wc.seq ?_
  refine Wc.region ?_
  refine Wl.move rfl rfl ?_
  refine Wl.field fd41_1 rfl rfl ?_
  refine Wl.loadO ty39 rfl (by repeat (first | exact .here | apply Has.there)) rfl rfl ?_
  refine Wl.slLen Tryz.underlying39 rfl rfl ?_
  refine Wl.iLss rfl rfl rfl ?_
  refine Wl.nil ?_
  refine Wx.then_code ?_
  refine Wc.condS rfl (fun hc9 => ?_) (fun hc9 => ?_)
  refine Wc.skip ?_
  refine Wx.then_code ?_
  refine Wc.seq ?_
  refine Wc.block ?_
  refine Wc.seq ?_
  refine Wc.block ?_
  have hlt1 : i < ys.length := by have := of_decide_eq_true hc9; dsimp only at this; omega
  have hxi := List.getElem?_eq_getElem hlt1
  refine Wc.loop (ι := Nat × Ghost) (fun x => g3.le x.2 ∧ x.1 ≤ zs.length ∧ (X.drop i).Sublist ((zs.map Prod.snd).drop x.1)) (fun x => [(1, .pointer (some ⟨b1, 0, none⟩)), (3, .pointer (some ⟨b2, 0, none⟩)), (9, .int .i64 x.1), (10, .int .i64 i)]) (fun x => x.2) (fun _ => _) (fun x => zs.length - x.1) (q, g3)
    ⟨Ghost.le.refl _, hq, hsub⟩ (.cons rfl (.cons rfl (.cons rfl (.cons rfl (.nil _))))) rfl rfl fun ⟨k, g4⟩ ⟨hg4, hk, hsub4⟩ => ?_
  dsimp only at hg4 hk hsub4
  have hlt2 : k < zs.length := hsubZ i k hsub4 (by omega)
  have hzk := List.getElem?_eq_getElem hlt2
  have hz4 := hz.mono ((hl12.trans hg3).trans hg4)
  have hy4 := hy.mono (hg3.trans hg4)
  obtain ⟨zb, zo, hzo, hze⟩ := hz4.1.at (by omega)
  obtain ⟨yb, yo, hyo, hye⟩ := hy4.1.at (by omega)
  subst hzo hyo
  have hcz : Seg g4 zb (zo + k * 1) [zs[k].1] := by
    obtain ⟨vs, e, _, hs⟩ := hze k _ hzk; subst e; exact hs
  have hcy : Seg g4 yb (yo + i * 1) [ys[i].1] := by
    obtain ⟨vs, e, _, hs⟩ := hye i _ hxi; subst e; exact hs
  have haz := hz4.2 _ (List.getElem_mem hlt2)
  have hay := hy4.2 _ (List.getElem_mem hlt1)
  obtain ⟨o5, c5, e5, _⟩ := haz.shape
  obtain ⟨o6, c6, e6, _⟩ := hay.shape
  have hlz : zs[k].2.length ≤ 6 := hfp _ (List.mem_map_of_mem (List.getElem_mem hlt2))
  have hly : ys[i].2.length ≤ 6 := hlp _ (hys ▸ List.mem_map_of_mem (List.getElem_mem hlt1))
  refine Wc.seq ?_
  refine Wc.seq ?_
  apply Wc.draw (m := 19) (D := [[], [], [1], [2], [0, 3], [4], [5], [5, 6], [5], [5, 7, 8], [5, 9], [5], [5, 11], [5], [5, 12, 13], [5, 14], [5, 10, 15], [5, 16], [5, 17]]) (Ys := [.det _, .det _, .det (.slice (some ⟨zb, zo, none⟩) zs.length cz), .det _, .det (.bool true), .det _, .det _, .det (.slice (some ⟨zb, zo, none⟩) zs.length cz), .det _, .det (.pointer (some ⟨zb, zo + k * 1, none⟩)), .det (.agg #[zs[k].1]), .det _, .det (.slice (some ⟨yb, yo, none⟩) ys.length cx), .det _, .det (.pointer (some ⟨yb, yo + i * 1, none⟩)), .det (.agg #[ys[i].1]), .det (.bool (sameB zs[k].2 ys[i].2)), .det _, .det _])
  · exact follows
  · kernel_rfl
  · rfl
  · rfl
  · rfl
  · skip
    apply Locs.mk
    · intro env K' h' S' hs hd hl hY
      refine Wl.move (hs _ _ rfl) rfl ?_
      refine Wl.nil ?_
      exact Wx.gives0 _ (Ghost.le.refl _) ⟨rfl, rfl⟩ (Sub.refl _)
    apply Locs.mk
    · intro env K' h' S' hs hd hl hY
      refine Wl.field fd41_1 (hs _ _ rfl) rfl ?_
      refine Wl.nil ?_
      exact Wx.gives0 _ (Ghost.le.refl _) ⟨rfl, rfl⟩ (Sub.refl _)
    apply Locs.mk
    · intro env K' h' S' hs hd hl hY
      refine Wl.loadO ty39 (detL (hd 1 (by decide)) (hY 1 (by decide))) (Has.right (by repeat (first | exact .here | apply Has.there))) rfl rfl ?_
      refine Wl.nil ?_
      exact Wx.gives0 _ (Ghost.le.refl _) ⟨rfl, rfl⟩ (Sub.refl _)
    apply Locs.mk
    · intro env K' h' S' hs hd hl hY
      refine Wl.slLen Tryz.underlying39 (detL (hd 2 (by decide)) (hY 2 (by decide))) rfl ?_
      refine Wl.nil ?_
      exact Wx.gives0 _ (Ghost.le.refl _) ⟨rfl, rfl⟩ (Sub.refl _)
    apply Locs.mk
    · intro env K' h' S' hs hd hl hY
      refine Wl.iLss (detL (hd 0 (by decide)) (hY 0 (by decide))) (detL (hd 3 (by decide)) (hY 3 (by decide))) rfl ?_
      refine Wl.nil ?_
      exact Wx.gives0 _ (Ghost.le.refl _) ⟨(congrArg Value.bool (decide_eq_true (by omega))), rfl⟩ (Sub.refl _)
    apply Locs.mk
    · intro env K' h' S' hs hd hl hY
      refine Wl.move (detL (hd 4 (by decide)) (hY 4 (by decide))) rfl ?_
      refine Wl.nil ?_
      exact Wx.gives0 _ (Ghost.le.refl _) ⟨rfl, rfl⟩ (Sub.refl _)
    apply Locs.mk
    · intro env K' h' S' hs hd hl hY
      refine Wl.guardYes rfl (detL (hd 5 (by decide)) (hY 5 (by decide))) ?_
      refine Wl.field fd41_1 (hs _ _ rfl) rfl ?_
      refine Wl.nil ?_
      exact Wx.gives0 _ (Ghost.le.refl _) ⟨rfl, rfl⟩ (Sub.refl _)
    apply Locs.mk
    · intro env K' h' S' hs hd hl hY
      refine Wl.guardYes rfl (detL (hd 5 (by decide)) (hY 5 (by decide))) ?_
      refine Wl.loadO ty39 (detL (hd 6 (by decide)) (hY 6 (by decide))) (Has.right (by repeat (first | exact .here | apply Has.there))) rfl rfl ?_
      refine Wl.nil ?_
      exact Wx.gives0 _ (Ghost.le.refl _) ⟨rfl, rfl⟩ (Sub.refl _)
    apply Locs.mk
    · intro env K' h' S' hs hd hl hY
      refine Wl.guardYes rfl (detL (hd 5 (by decide)) (hY 5 (by decide))) ?_
      refine Wl.move (hs _ _ rfl) rfl ?_
      refine Wl.nil ?_
      exact Wx.gives0 _ (Ghost.le.refl _) ⟨rfl, rfl⟩ (Sub.refl _)
    apply Locs.mk
    · intro env K' h' S' hs hd hl hY
      refine Wl.guardYes rfl (detL (hd 5 (by decide)) (hY 5 (by decide))) ?_
      refine Wl.elem (j := k) sl39 (detL (hd 7 (by decide)) (hY 7 (by decide))) (detL (hd 8 (by decide)) (hY 8 (by decide))) rfl hlt2 rfl ?_
      refine Wl.nil ?_
      exact Wx.gives0 _ (Ghost.le.refl _) ⟨rfl, rfl⟩ (Sub.refl _)
    apply Locs.mk
    · intro env K' h' S' hs hd hl hY
      refine Wl.guardYes rfl (detL (hd 5 (by decide)) (hY 5 (by decide))) ?_
      refine Wl.loadGA ty24 (detL (hd 9 (by decide)) (hY 9 (by decide))) (hcz.mono hl) rfl rfl ?_
      refine Wl.nil ?_
      exact Wx.gives0 _ (Ghost.le.refl _) ⟨rfl, rfl⟩ (Sub.refl _)
    apply Locs.mk
    · intro env K' h' S' hs hd hl hY
      refine Wl.guardYes rfl (detL (hd 5 (by decide)) (hY 5 (by decide))) ?_
      refine Wl.field fd41_1 (hs _ _ rfl) rfl ?_
      refine Wl.nil ?_
      exact Wx.gives0 _ (Ghost.le.refl _) ⟨rfl, rfl⟩ (Sub.refl _)
    apply Locs.mk
    · intro env K' h' S' hs hd hl hY
      refine Wl.guardYes rfl (detL (hd 5 (by decide)) (hY 5 (by decide))) ?_
      refine Wl.loadO ty39 (detL (hd 11 (by decide)) (hY 11 (by decide))) (Has.right (by repeat (first | exact .here | apply Has.there))) rfl rfl ?_
      refine Wl.nil ?_
      exact Wx.gives0 _ (Ghost.le.refl _) ⟨rfl, rfl⟩ (Sub.refl _)
    apply Locs.mk
    · intro env K' h' S' hs hd hl hY
      refine Wl.guardYes rfl (detL (hd 5 (by decide)) (hY 5 (by decide))) ?_
      refine Wl.move (hs _ _ rfl) rfl ?_
      refine Wl.nil ?_
      exact Wx.gives0 _ (Ghost.le.refl _) ⟨rfl, rfl⟩ (Sub.refl _)
    apply Locs.mk
    · intro env K' h' S' hs hd hl hY
      refine Wl.guardYes rfl (detL (hd 5 (by decide)) (hY 5 (by decide))) ?_
      refine Wl.elem (j := i) sl39 (detL (hd 12 (by decide)) (hY 12 (by decide))) (detL (hd 13 (by decide)) (hY 13 (by decide))) rfl hlt1 rfl ?_
      refine Wl.nil ?_
      exact Wx.gives0 _ (Ghost.le.refl _) ⟨rfl, rfl⟩ (Sub.refl _)
    apply Locs.mk
    · intro env K' h' S' hs hd hl hY
      refine Wl.guardYes rfl (detL (hd 5 (by decide)) (hY 5 (by decide))) ?_
      refine Wl.loadGA ty24 (detL (hd 14 (by decide)) (hY 14 (by decide))) (hcy.mono hl) rfl rfl ?_
      refine Wl.nil ?_
      exact Wx.gives0 _ (Ghost.le.refl _) ⟨rfl, rfl⟩ (Sub.refl _)
    apply Locs.mk
    · intro env K' h' S' hs hd hl hY
      refine Wl.guardYes rfl (detL (hd 5 (by decide)) (hY 5 (by decide))) ?_
      refine Wl.callV rfl (evs2 (detL (hd 10 (by decide)) (hY 10 (by decide))) (detL (hd 15 (by decide)) (hY 15 (by decide)))) rfl (SamePart_spec _ _ zs[k].2 ys[i].2 h' (haz.mono hl) (hay.mono hl) (by omega) (by omega)) ?_
      refine Wl.nil ?_
      exact Wx.gives0 _ (Ghost.le.refl _) ⟨rfl, rfl⟩ (Sub.refl _)
    apply Locs.mk
    · intro env K' h' S' hs hd hl hY
      refine Wl.guardYes rfl (detL (hd 5 (by decide)) (hY 5 (by decide))) ?_
      refine Wl.not (detL (hd 16 (by decide)) (hY 16 (by decide))) rfl ?_
      refine Wl.nil ?_
      exact Wx.gives0 _ (Ghost.le.refl _) ⟨rfl, rfl⟩ (Sub.refl _)
    apply Locs.mk
    · intro env K' h' S' hs hd hl hY
      refine Wl.pickT (detL (hd 5 (by decide)) (hY 5 (by decide))) (detL (hd 17 (by decide)) (hY 17 (by decide))) rfl ?_
      refine Wl.nil ?_
      exact Wx.gives0 _ (Ghost.le.refl _) ⟨rfl, rfl⟩ (Sub.refl _)
    trivial
  · exact ⟨trivial, trivial, trivial, trivial, trivial, trivial, trivial, trivial, trivial, trivial, trivial, trivial, trivial, trivial, trivial, trivial, trivial, trivial, trivial, trivial⟩
  intro h' hl'
  show Wl _ _ _ [] _ ((87, _) :: (86, _) :: (85, _) :: (84, _) :: (83, _) :: (82, _) :: (81, _) :: (80, _) :: (79, _) :: (78, _) :: (77, _) :: (76, _) :: (75, _) :: (74, _) :: (73, _) :: (72, _) :: (71, _) :: (70, _) :: (69, _) :: _) _ _ _
  refine Wl.nil ?_
  refine Wx.then_code ?_
  refine Wc.condS rfl (fun hc10 => ?_) (fun hc10 => ?_)
  refine Wc.skip ?_
  refine Wx.then_code ?_
  refine Wc.block ?_
  refine Wc.region ?_
  refine Wl.move rfl rfl ?_
  refine Wl.inc rfl rfl (by first | assumption | omega | (have hx := of_decide_eq_true hc10; omega) | (have hx := of_decide_eq_true hc9; omega) | (have hx := of_decide_eq_true hc8; omega) | (have hx := of_decide_eq_true hc3; omega)) ?_
  refine Wl.assign rfl rfl ?_
  refine Wl.nil ?_
  refine Wx.block_normal ?_
  · refine Wx.again (k + 1, h') ⟨hg4.trans hl', hlt2, ?_⟩ (show zs.length - (k + 1) < zs.length - k by omega) (.cons rfl (.cons rfl (.cons rfl (.cons rfl (.nil _))))) rfl .refl
    refine sub_skip (x := ys[i].2) (y := zs[k].2) (by rw [← hys, List.getElem?_map, hxi]; rfl) (by rw [List.getElem?_map, hzk]; rfl) hsub4 fun e => ?_
    rw [sameB, decide_eq_true e] at hc10
    cases hc10
  refine Wc.exit ?_
  refine Wx.then_exit ?_
  refine Wx.then_exit ?_
  refine Wx.block_exit ?_
  refine Wx.then_code ?_
  refine Wc.seq ?_
  refine Wc.seq ?_
  refine Wc.region ?_
  refine Wl.move rfl rfl ?_
  refine Wl.field fd41_1 rfl rfl ?_
  refine Wl.loadO ty39 rfl (by repeat (first | exact .here | apply Has.there)) rfl rfl ?_
  refine Wl.slLen Tryz.underlying39 rfl rfl ?_
  refine Wl.iEql rfl rfl rfl ?_
  refine Wl.nil ?_
  refine Wx.then_code ?_
  refine Wc.condS rfl (fun hc11 => ?_) (fun hc11 => ?_)
  refine Wc.seq ?_
  refine Wc.region ?_
  refine Wl.assign rfl rfl ?_
  refine Wl.nil ?_
  refine Wx.then_code ?_
  refine Wc.ret ?_
  refine Wx.then_ret ?_
  refine Wx.block_ret ?_
  refine Wx.then_ret ?_
  refine Wx.then_ret ?_
  refine Wx.block_ret ?_
  refine Wx.then_ret ?_
  · have : ((k : Int) == zs.length) = false := by simp; omega
    rw [this] at hc11
    cases hc11
  refine Wc.skip ?_
  refine Wx.then_code ?_
  refine Wc.seq ?_
  refine Wc.region ?_
  refine Wl.move rfl rfl ?_
  refine Wl.inc rfl rfl (by first | assumption | omega | (have hx := of_decide_eq_true hc11; omega) | (have hx := of_decide_eq_true hc10; omega) | (have hx := of_decide_eq_true hc9; omega) | (have hx := of_decide_eq_true hc8; omega)) ?_
  refine Wl.assign rfl rfl ?_
  refine Wl.nil ?_
  refine Wx.then_code ?_
  refine Wc.seq ?_
  refine Wc.region ?_
  refine Wl.assign rfl rfl ?_
  refine Wl.nil ?_
  refine Wx.then_code ?_
  refine Wc.block ?_
  have hsub5 : (X.drop (i + 1)).Sublist ((zs.map Prod.snd).drop (k + 1)) := sub_next (x := ys[i].2) (y := zs[k].2) (by rw [← hys, List.getElem?_map, hxi]; rfl) (by rw [List.getElem?_map, hzk]; rfl) hsub4
  have hh' := (hg3.trans hg4).trans hl'
  refine Wc.loop (ι := Nat × Ghost) (fun x => x.1 ≤ ys.length ∧ h'.le x.2) (fun x => [(1, .pointer (some ⟨b1, 0, none⟩)), (3, .pointer (some ⟨b2, 0, none⟩)), (9, .int .i64 ((k + 1 : Nat) : Int)), (10, .int .i64 i), (11, .int .i64 x.1)]) (fun x => x.2) (fun _ => _) (fun x => ys.length - x.1) (0, h')
    ⟨Nat.zero_le _, Ghost.le.refl _⟩ (.cons rfl (.cons rfl (.cons rfl (.cons rfl (.cons rfl (.nil _)))))) rfl rfl fun ⟨j, g6⟩ ⟨hj, hg6⟩ => ?_
  dsimp only at hj hg6
  refine Wc.seq ?_
  refine Wc.seq ?_
  refine Wc.region ?_
  refine Wl.move rfl rfl ?_
  refine Wl.field fd41_1 rfl rfl ?_
  refine Wl.loadO ty39 rfl (by repeat (first | exact .here | apply Has.there)) rfl rfl ?_
  refine Wl.slLen Tryz.underlying39 rfl rfl ?_
  refine Wl.iLss rfl rfl rfl ?_
  refine Wl.nil ?_
  refine Wx.then_code ?_
  refine Wc.condS rfl (fun hc12 => ?_) (fun hc12 => ?_)
  refine Wc.skip ?_
  refine Wx.then_code ?_
  refine Wc.seq ?_
  refine Wc.block ?_
  refine Wc.seq ?_
  have hlt3 : j < ys.length := by have := of_decide_eq_true hc12; dsimp only at this; omega
  have hxj := List.getElem?_eq_getElem hlt3
  have hy6 := hy.mono (hh'.trans hg6)
  obtain ⟨yb6, yo6, hyo6, hye6⟩ := hy6.1.at (by omega)
  cases hyo6
  have hci : Seg g6 yb (yo + i * 1) [ys[i].1] := by
    obtain ⟨vs, e, _, hs⟩ := hye6 i _ hxi; subst e; exact hs
  have hcj : Seg g6 yb (yo + j * 1) [ys[j].1] := by
    obtain ⟨vs, e, _, hs⟩ := hye6 j _ hxj; subst e; exact hs
  have hai := hy6.2 _ (List.getElem_mem hlt1)
  have haj := hy6.2 _ (List.getElem_mem hlt3)
  have hlj : ys[j].2.length ≤ 6 := hlp _ (hys ▸ List.mem_map_of_mem (List.getElem_mem hlt3))
  have hei : checkE ts ys[i].2 = 0 := query_part hqX (hys ▸ List.mem_map_of_mem (List.getElem_mem hlt1))
  have hej : checkE ts ys[j].2 = 0 := query_part hqX (hys ▸ List.mem_map_of_mem (List.getElem_mem hlt3))
  apply Wc.draw (m := 17) (D := [[], [0], [], [1, 2], [3], [], [5], [], [6, 7], [8], [], [10], [4, 9, 11], [12], [13], [13], [14]]) (Ys := [.det _, .det (.slice (some ⟨yb, yo, none⟩) ys.length cx), .det _, .det (.pointer (some ⟨yb, yo + i * 1, none⟩)), .det (.agg #[ys[i].1]), .det _, .det (.slice (some ⟨yb, yo, none⟩) ys.length cx), .det _, .det (.pointer (some ⟨yb, yo + j * 1, none⟩)), .det (.agg #[ys[j].1]), .det _, .det (.slice o2 ts.length c2), .det (.tuple #[.bool (partB ts ys[i].2 ys[j].2), .int .i64 (partE ts ys[i].2 ys[j].2)]), .det _, .det _, .det _, .det _])
  · exact follows
  · kernel_rfl
  · rfl
  · rfl
  · rfl
  · skip
    apply Locs.mk
    · intro env K' h' S' hs hd hl hY
      refine Wl.field fd41_1 (hs _ _ rfl) rfl ?_
      refine Wl.nil ?_
      exact Wx.gives0 _ (Ghost.le.refl _) ⟨rfl, rfl⟩ (Sub.refl _)
    apply Locs.mk
    · intro env K' h' S' hs hd hl hY
      refine Wl.loadO ty39 (detL (hd 0 (by decide)) (hY 0 (by decide))) (Has.right (by repeat (first | exact .here | apply Has.there))) rfl rfl ?_
      refine Wl.nil ?_
      exact Wx.gives0 _ (Ghost.le.refl _) ⟨rfl, rfl⟩ (Sub.refl _)
    apply Locs.mk
    · intro env K' h' S' hs hd hl hY
      refine Wl.move (hs _ _ rfl) rfl ?_
      refine Wl.nil ?_
      exact Wx.gives0 _ (Ghost.le.refl _) ⟨rfl, rfl⟩ (Sub.refl _)
    apply Locs.mk
    · intro env K' h' S' hs hd hl hY
      refine Wl.elem (j := i) sl39 (detL (hd 1 (by decide)) (hY 1 (by decide))) (detL (hd 2 (by decide)) (hY 2 (by decide))) rfl hlt1 rfl ?_
      refine Wl.nil ?_
      exact Wx.gives0 _ (Ghost.le.refl _) ⟨rfl, rfl⟩ (Sub.refl _)
    apply Locs.mk
    · intro env K' h' S' hs hd hl hY
      refine Wl.loadGA ty24 (detL (hd 3 (by decide)) (hY 3 (by decide))) (hci.mono hl) rfl rfl ?_
      refine Wl.nil ?_
      exact Wx.gives0 _ (Ghost.le.refl _) ⟨rfl, rfl⟩ (Sub.refl _)
    apply Locs.mk
    · intro env K' h' S' hs hd hl hY
      refine Wl.field fd41_1 (hs _ _ rfl) rfl ?_
      refine Wl.nil ?_
      exact Wx.gives0 _ (Ghost.le.refl _) ⟨rfl, rfl⟩ (Sub.refl _)
    apply Locs.mk
    · intro env K' h' S' hs hd hl hY
      refine Wl.loadO ty39 (detL (hd 5 (by decide)) (hY 5 (by decide))) (Has.right (by repeat (first | exact .here | apply Has.there))) rfl rfl ?_
      refine Wl.nil ?_
      exact Wx.gives0 _ (Ghost.le.refl _) ⟨rfl, rfl⟩ (Sub.refl _)
    apply Locs.mk
    · intro env K' h' S' hs hd hl hY
      refine Wl.move (hs _ _ rfl) rfl ?_
      refine Wl.nil ?_
      exact Wx.gives0 _ (Ghost.le.refl _) ⟨rfl, rfl⟩ (Sub.refl _)
    apply Locs.mk
    · intro env K' h' S' hs hd hl hY
      refine Wl.elem (j := j) sl39 (detL (hd 6 (by decide)) (hY 6 (by decide))) (detL (hd 7 (by decide)) (hY 7 (by decide))) rfl hlt3 rfl ?_
      refine Wl.nil ?_
      exact Wx.gives0 _ (Ghost.le.refl _) ⟨rfl, rfl⟩ (Sub.refl _)
    apply Locs.mk
    · intro env K' h' S' hs hd hl hY
      refine Wl.loadGA ty24 (detL (hd 8 (by decide)) (hY 8 (by decide))) (hcj.mono hl) rfl rfl ?_
      refine Wl.nil ?_
      exact Wx.gives0 _ (Ghost.le.refl _) ⟨rfl, rfl⟩ (Sub.refl _)
    apply Locs.mk
    · intro env K' h' S' hs hd hl hY
      refine Wl.field fd41_0 (hs _ _ rfl) rfl ?_
      refine Wl.nil ?_
      exact Wx.gives0 _ (Ghost.le.refl _) ⟨rfl, rfl⟩ (Sub.refl _)
    apply Locs.mk
    · intro env K' h' S' hs hd hl hY
      refine Wl.loadO ty25 (detL (hd 10 (by decide)) (hY 10 (by decide))) (Has.right (by repeat (first | exact .here | apply Has.there))) rfl rfl ?_
      refine Wl.nil ?_
      exact Wx.gives0 _ (Ghost.le.refl _) ⟨rfl, rfl⟩ (Sub.refl _)
    apply Locs.mk
    · intro env K' h' S' hs hd hl hY
      refine Wl.callV rfl (evs3 (detL (hd 4 (by decide)) (hY 4 (by decide))) (detL (hd 9 (by decide)) (hY 9 (by decide))) (detL (hd 11 (by decide)) (hY 11 (by decide)))) rfl (Part_spec _ _ _ ts ys[i].2 ys[j].2 _ (hai.mono hl) (haj.mono hl) (hT2.mono ((hh'.trans hg6).trans hl)) (by omega) (by omega) (by omega) (g2.mono ((hh'.trans hg6).trans hl))) ?_
      refine Wl.nil ?_
      exact Wx.gives0 _ (Ghost.le.refl _) ⟨rfl, rfl⟩ (Sub.refl _)
    apply Locs.mk
    · intro env K' h' S' hs hd hl hY
      refine Wl.move (detL (hd 12 (by decide)) (hY 12 (by decide))) rfl ?_
      refine Wl.nil ?_
      exact Wx.gives0 _ (Ghost.le.refl _) ⟨rfl, rfl⟩ (Sub.refl _)
    apply Locs.mk
    · intro env K' h' S' hs hd hl hY
      refine Wl.extract (detL (hd 13 (by decide)) (hY 13 (by decide))) rfl rfl ?_
      refine Wl.nil ?_
      exact Wx.gives0 _ (Ghost.le.refl _) ⟨rfl, rfl⟩ (Sub.refl _)
    apply Locs.mk
    · intro env K' h' S' hs hd hl hY
      refine Wl.extract (detL (hd 13 (by decide)) (hY 13 (by decide))) rfl rfl ?_
      refine Wl.nil ?_
      exact Wx.gives0 _ (Ghost.le.refl _) ⟨rfl, rfl⟩ (Sub.refl _)
    apply Locs.mk
    · intro env K' h' S' hs hd hl hY
      refine Wl.assign (detL (hd 14 (by decide)) (hY 14 (by decide))) rfl ?_
      refine Wl.nil ?_
      exact Wx.gives0 _ (Ghost.le.refl _) ⟨rfl, rfl⟩ (Sub.refl _)
    trivial
  · exact ⟨trivial, trivial, trivial, trivial, trivial, trivial, trivial, trivial, trivial, trivial, trivial, trivial, trivial, trivial, trivial, trivial, trivial, trivial⟩
  intro h' hl'
  show Wl _ _ _ [_] _ ((12, _) :: (119, _) :: (118, _) :: (104, _) :: (117, _) :: (116, _) :: (115, _) :: (114, _) :: (113, _) :: (112, _) :: (111, _) :: (110, _) :: (109, _) :: (108, _) :: (107, _) :: (106, _) :: (105, _) :: _) _ _ _
  refine Wl.assign rfl rfl ?_
  refine Wl.nil ?_
  refine Wx.then_code ?_
  refine Wc.seq ?_
  refine Wc.region ?_
  refine Wl.move rfl rfl ?_
  refine Wl.iNeq rfl rfl rfl ?_
  refine Wl.move rfl rfl ?_
  apply Wl.orB (l1 := [_, _, _, _, _, _, _]) (i := 122) (d := 129)
  · rfl
  · intro hg13
    refine Wl.guardNo rfl rfl rfl rfl ?_
    refine Wl.guardNo rfl rfl rfl rfl ?_
    refine Wl.guardNo rfl rfl rfl rfl ?_
    refine Wl.guardNo rfl rfl rfl rfl ?_
    refine Wl.guardUndef rfl rfl rfl ?_
    refine Wl.guardNo rfl rfl rfl rfl ?_
    refine Wl.pickT rfl rfl rfl ?_
    refine Wl.nil ?_
    exact Wx.reach (.cons rfl (.skip rfl (.skip rfl (.skip rfl (.skip rfl (.skip rfl (.skip rfl (.skip rfl (.same rfl (by rw [hg13]) (.refl _))))))))))
  · intro hg13
    refine Wl.guardYes rfl rfl ?_
    refine Wl.move rfl rfl ?_
    refine Wl.guardYes rfl rfl ?_
    refine Wl.move rfl rfl ?_
    refine Wl.guardYes rfl rfl ?_
    refine Wl.iNeq rfl rfl rfl ?_
    refine Wl.guardYes rfl rfl ?_
    refine Wl.move rfl rfl ?_
    apply Wl.andB (l1 := [_, _]) (i := 126) (d := 128)
    · rfl
    · intro hg14
      refine Wl.guardYes rfl rfl ?_
      refine Wl.move rfl rfl ?_
      refine Wl.guardYes rfl rfl ?_
      refine Wl.pickT rfl rfl rfl ?_
      refine Wl.nil ?_
      exact Wx.reach (.cons rfl (.skip rfl (.skip rfl (.same rfl (by rw [hg14]) (.refl _)))))
    · intro hg14
      refine Wl.guardNo rfl rfl rfl rfl ?_
      refine Wl.guardYes rfl rfl ?_
      refine Wl.pickF rfl rfl rfl ?_
      refine Wl.nil ?_
      exact Wx.reach (.cons rfl (.skip rfl (.skip rfl (.same rfl (by rw [hg14]) (.refl _)))))
    refine Wl.pickF rfl rfl rfl ?_
    refine Wl.nil ?_
    exact Wx.reach (.cons rfl (.skip rfl (.skip rfl (.skip rfl (.skip rfl (.skip rfl (.skip rfl (.same rfl (by rw [hg13]) (.refl _)))))))))
  refine Wl.nil ?_
  refine Wx.then_code ?_
  refine Wc.condS rfl (fun hc15 => ?_) (fun hc15 => ?_)
  refine Wc.seq ?_
  refine Wc.region ?_
  refine Wl.assign rfl rfl ?_
  refine Wl.nil ?_
  refine Wx.then_code ?_
  refine Wc.ret ?_
  refine Wx.block_ret ?_
  refine Wx.then_ret ?_
  refine Wx.then_ret ?_
  refine Wx.block_ret ?_
  refine Wx.block_ret ?_
  refine Wx.then_ret ?_
  refine Wx.then_ret ?_
  refine Wx.block_ret ?_
  refine Wx.then_ret ?_
  · exfalso
    have hE : partE ts ys[i].2 ys[j].2 = 0 := partE_zero.2 ⟨hei, hej⟩
    rw [hE] at hc15
    simp only [bne_self_eq_false, Bool.false_or, Bool.and_eq_true, bne_iff_ne] at hc15
    have hne : i ≠ j := fun e => hc15.1 (by rw [e])
    exact sh.tight i j ys[i].2 ys[j].2 hne (by rw [← hys, List.getElem?_map, hxi]; rfl) (by rw [← hys, List.getElem?_map, hxj]; rfl) (partB_iff.1 hc15.2).2
  refine Wc.skip ?_
  refine Wx.block_normal ?_
  refine Wx.then_code ?_
  refine Wc.region ?_
  refine Wl.move rfl rfl ?_
  refine Wl.inc rfl rfl (by first | assumption | omega | (have hx := of_decide_eq_true hc15; omega) | (have hx := of_decide_eq_true hc12; omega) | (have hx := of_decide_eq_true hc11; omega) | (have hx := of_decide_eq_true hc10; omega)) ?_
  refine Wl.assign rfl rfl ?_
  refine Wl.nil ?_
  · exact Wx.again (j + 1, _) ⟨hlt3, hg6.trans hl'⟩ (show ys.length - (j + 1) < ys.length - j by omega) (.cons rfl (.cons rfl (.cons rfl (.cons rfl (.cons rfl (.nil _)))))) rfl .refl
  refine Wc.exit ?_
  refine Wx.then_exit ?_
  refine Wx.then_exit ?_
  refine Wx.block_exit ?_
  refine Wx.block_normal ?_
  refine Wx.then_code ?_
  refine Wc.region ?_
  refine Wl.move rfl rfl ?_
  refine Wl.inc rfl rfl (by first | assumption | omega | (have hx := of_decide_eq_true hc12; omega) | (have hx := of_decide_eq_true hc11; omega) | (have hx := of_decide_eq_true hc10; omega) | (have hx := of_decide_eq_true hc9; omega)) ?_
  refine Wl.assign rfl rfl ?_
  refine Wl.nil ?_
  · exact Wx.again (i + 1, k + 1, g6) ⟨hlt1, hh'.trans hg6, hlt2, hsub5⟩ (show ys.length - (i + 1) < ys.length - i by omega) (.cons rfl (.cons rfl (.cons rfl (.cons rfl (.nil _))))) rfl .refl
  refine Wc.exit ?_
  refine Wx.then_exit ?_
  refine Wx.then_exit ?_
  refine Wx.block_exit ?_
  refine Wx.then_code ?_
  refine Wc.seq ?_
  refine Wc.region ?_
  refine Wl.assign rfl rfl ?_
  refine Wl.nil ?_
  refine Wx.then_code ?_
  refine Wc.ret ?_
  exact endV .ret (.inl rfl) rfl rfl [_, _] (hl12.trans hg3) rfl
end Go.Proofs.YtgpmjggdloldnaaGreatDoor
