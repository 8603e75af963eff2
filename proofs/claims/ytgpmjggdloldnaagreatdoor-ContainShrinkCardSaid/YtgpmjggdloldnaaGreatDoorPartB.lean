/-
  Contracts and plain lemmas, joined: T9, T10, T11, T12, T13, T14, T15, T16
-/
import Derived.Test.YtgpmjggdloldnaaGreatDoorLogicB
import Derived.Test.YtgpmjggdloldnaaGreatDoorPartA
import Derived.Laws.Cover2
import Derived.KernelRfl
namespace Go.Proofs.YtgpmjggdloldnaaGreatDoor
open Go Go.Sx
set_option maxRecDepth 100000
def Raw (h : Ghost) (k : Nat) (v : Value) (css : List (List Value)) : Prop := Sl h (fun vs us => us = vs) k v css
def Fits (k : Nat) (css : List (List Value)) : Prop := (∀ vs ∈ css, vs.length = k) ∧ ∀ vs ∈ css, ∀ u ∈ vs, Sx.one u
theorem Fits.flat {k : Nat} {css : List (List Value)} (h : Fits k css) : ∀ u ∈ css.flatten, Sx.one u := fun u hu => by
  obtain ⟨vs, h1, h2⟩ := List.mem_flatten.1 hu
  exact h.2 vs h1 u h2
theorem Fits.len {k : Nat} {css : List (List Value)} (h : Fits k css) : css.flatten.length = css.length * k := flatten_length h.1

theorem CloneAtom_spec (v : Value) (css : List (List Value)) (h : Ghost) (hf : Fits 6 css) (hv : Raw h 6 v css) (hn : css.length ≤ 1000000) :
    Sx.Spec Tryz.prog 24 [v] h [] fun u h' F' => h' = h ∧ ∃ F1, F' = [F1] ∧ Row F1 u 37 6 css.length css.flatten := by
  have hv' := hv
  obtain ⟨ao, cap, rfl, hcap, r⟩ := hv'
  refine Spec.enter cl24 Tryz.func24 rfl Tryz.ntmps24 rfl fun E R => ?_
  refine Wc.seq ?_
  refine Wc.region ?_
  refine Wl.assign rfl rfl ?_
  refine Wl.nil ?_
  refine Wx.then_code ?_
  refine Wc.seq ?_
  refine Wc.seq ?_
  refine Wc.region ?_
  refine Wl.move rfl rfl ?_
  refine Wl.slNil Tryz.underlying22 rfl rfl rfl ?_
  refine Wl.nil ?_
  refine Wx.then_code ?_
  refine Wc.condS rfl (fun hc1 => ?_) (fun hc1 => ?_)
  refine Wc.seq ?_
  refine Wc.region ?_
  refine Wl.assign rfl rfl ?_
  refine Wl.nil ?_
  refine Wx.then_code ?_
  refine Wc.ret ?_
  refine Wx.then_ret ?_
  · have h0 : css = [] := by
      rcases r with h | ⟨b, o, rfl, _⟩
      · exact h
      · cases hc1
    subst h0
    refine Wx.addNil ?_
    exact Fin.keep (F' := [[]]) [] .ret (.inl rfl) (run_tmp rfl rfl) (Ghost.le.refl _) fun _ _ => ⟨Ghost.ext_nil, [], rfl, Row.nil _ _⟩
  refine Wc.skip ?_
  refine Wx.then_code ?_
  refine Wc.seq ?_
  refine Wc.region ?_
  refine Wl.buildSlice0 sl22 rfl (fun b1 => ?_)
  refine Wl.move rfl rfl ?_
  refine Wl.append [] _ css.flatten sl22 rfl rfl rfl (⟨rfl, .inr ⟨b1, 0, [], rfl, rfl, Nat.le_refl _, rfl⟩⟩ : Row [(b1, cells ([] ++ []) 37)] _ _ 6 0 []) rfl hf.len (srcS hv) hf.flat ?_ ?_ fun u F1 hrow => ?_
  · omega
  · omega
  rw [Nat.zero_add, List.nil_append] at hrow
  refine Wl.assign rfl rfl ?_
  refine Wl.nil ?_
  refine Wx.then_code ?_
  refine Wc.ret ?_
  · exact Fin.keep (F' := [F1]) [] .ret (.inl rfl) (run_tmp rfl rfl) (Ghost.le.refl _) fun _ _ => ⟨Ghost.ext_nil, F1, rfl, hrow⟩

theorem ClonePart_spec (v : Value) (css : List (List Value)) (h : Ghost) (hf : Fits 1 css) (hv : Raw h 1 v css) (hn : css.length ≤ 1000000) :
    Sx.Spec Tryz.prog 51 [v] h [] fun u h' F' => h' = h ∧ ∃ F1, F' = [F1] ∧ Row F1 u 24 1 css.length css.flatten := by
  have hv' := hv
  obtain ⟨ao, cap, rfl, hcap, r⟩ := hv'
  refine Spec.enter cl51 Tryz.func51 rfl Tryz.ntmps51 rfl fun E R => ?_
  refine Wc.seq ?_
  refine Wc.region ?_
  refine Wl.assign rfl rfl ?_
  refine Wl.nil ?_
  refine Wx.then_code ?_
  refine Wc.seq ?_
  refine Wc.seq ?_
  refine Wc.region ?_
  refine Wl.move rfl rfl ?_
  refine Wl.slNil Tryz.underlying39 rfl rfl rfl ?_
  refine Wl.nil ?_
  refine Wx.then_code ?_
  refine Wc.condS rfl (fun hc1 => ?_) (fun hc1 => ?_)
  refine Wc.seq ?_
  refine Wc.region ?_
  refine Wl.assign rfl rfl ?_
  refine Wl.nil ?_
  refine Wx.then_code ?_
  refine Wc.ret ?_
  refine Wx.then_ret ?_
  · have h0 : css = [] := by
      rcases r with h | ⟨b, o, rfl, _⟩
      · exact h
      · cases hc1
    subst h0
    refine Wx.addNil ?_
    exact Fin.keep (F' := [[]]) [] .ret (.inl rfl) (run_tmp rfl rfl) (Ghost.le.refl _) fun _ _ => ⟨Ghost.ext_nil, [], rfl, Row.nil _ _⟩
  refine Wc.skip ?_
  refine Wx.then_code ?_
  refine Wc.seq ?_
  refine Wc.region ?_
  refine Wl.buildSlice0 sl39 rfl (fun b1 => ?_)
  refine Wl.move rfl rfl ?_
  refine Wl.append [] _ css.flatten sl39 rfl rfl rfl (⟨rfl, .inr ⟨b1, 0, [], rfl, rfl, Nat.le_refl _, rfl⟩⟩ : Row [(b1, cells ([] ++ []) 24)] _ _ 1 0 []) rfl hf.len (srcS hv) hf.flat ?_ ?_ fun u F1 hrow => ?_
  · omega
  · omega
  rw [Nat.zero_add, List.nil_append] at hrow
  refine Wl.assign rfl rfl ?_
  refine Wl.nil ?_
  refine Wx.then_code ?_
  refine Wc.ret ?_
  · exact Fin.keep (F' := [F1]) [] .ret (.inl rfl) (run_tmp rfl rfl) (Ghost.le.refl _) fun _ _ => ⟨Ghost.ext_nil, F1, rfl, hrow⟩

theorem CloneStr_spec (v : Value) (css : List (List Value)) (h : Ghost) (hf : Fits 1 css) (hv : Raw h 1 v css) (hn : css.length ≤ 1000000) :
    Sx.Spec Tryz.prog 27 [v] h [] fun u h' F' => h' = h ∧ ∃ F1, F' = [F1] ∧ Row F1 u 9 1 css.length css.flatten := by
  have hv' := hv
  obtain ⟨ao, cap, rfl, hcap, r⟩ := hv'
  refine Spec.enter cl27 Tryz.func27 rfl Tryz.ntmps27 rfl fun E R => ?_
  refine Wc.seq ?_
  refine Wc.region ?_
  refine Wl.assign rfl rfl ?_
  refine Wl.nil ?_
  refine Wx.then_code ?_
  refine Wc.seq ?_
  refine Wc.seq ?_
  refine Wc.region ?_
  refine Wl.move rfl rfl ?_
  refine Wl.slNil Tryz.underlying25 rfl rfl rfl ?_
  refine Wl.nil ?_
  refine Wx.then_code ?_
  refine Wc.condS rfl (fun hc1 => ?_) (fun hc1 => ?_)
  refine Wc.seq ?_
  refine Wc.region ?_
  refine Wl.assign rfl rfl ?_
  refine Wl.nil ?_
  refine Wx.then_code ?_
  refine Wc.ret ?_
  refine Wx.then_ret ?_
  · have h0 : css = [] := by
      rcases r with h | ⟨b, o, rfl, _⟩
      · exact h
      · cases hc1
    subst h0
    refine Wx.addNil ?_
    exact Fin.keep (F' := [[]]) [] .ret (.inl rfl) (run_tmp rfl rfl) (Ghost.le.refl _) fun _ _ => ⟨Ghost.ext_nil, [], rfl, Row.nil _ _⟩
  refine Wc.skip ?_
  refine Wx.then_code ?_
  refine Wc.seq ?_
  refine Wc.region ?_
  refine Wl.buildSlice0 sl25 rfl (fun b1 => ?_)
  refine Wl.move rfl rfl ?_
  refine Wl.append [] _ css.flatten sl25 rfl rfl rfl (⟨rfl, .inr ⟨b1, 0, [], rfl, rfl, Nat.le_refl _, rfl⟩⟩ : Row [(b1, cells ([] ++ []) 9)] _ _ 1 0 []) rfl hf.len (srcS hv) hf.flat ?_ ?_ fun u F1 hrow => ?_
  · omega
  · omega
  rw [Nat.zero_add, List.nil_append] at hrow
  refine Wl.assign rfl rfl ?_
  refine Wl.nil ?_
  refine Wx.then_code ?_
  refine Wc.ret ?_
  · exact Fin.keep (F' := [F1]) [] .ret (.inl rfl) (run_tmp rfl rfl) (Ghost.le.refl _) fun _ _ => ⟨Ghost.ext_nil, F1, rfl, hrow⟩
end Go.Proofs.YtgpmjggdloldnaaGreatDoor

namespace Go.Proofs.YtgpmjggdloldnaaGreatDoor
open Go Go.Sx
set_option maxRecDepth 100000
theorem zeroCells_one {z : Array Value} (n : Nat) (hp : 0 < z.size) (hz : z.toList.all Value.oneCell' = true) : ∀ u ∈ (Builtin.zeroCells z n).toList, Sx.one u := fun u hu => by
  simp only [Builtin.zeroCells, Array.toList_map, List.mem_map] at hu
  obtain ⟨i, _, rfl⟩ := hu
  have hi : i % z.size < z.size := Nat.mod_lt _ hp
  rw [getElem!_pos z _ hi]
  exact List.all_eq_true.1 hz _ (by simp)
theorem flatten_split {css : List (List Value)} {i : Nat} (hi : i < css.length) : css.flatten = (css.take i).flatten ++ (css[i] ++ (css.drop (i + 1)).flatten) := by
  conv => lhs; rw [← List.take_append_drop i css, List.flatten_append, List.drop_eq_getElem_cons hi, List.flatten_cons]
theorem flatten_erase {css : List (List Value)} {i : Nat} : (css.eraseIdx i).flatten = (css.take i).flatten ++ (css.drop (i + 1)).flatten := by
  rw [List.eraseIdx_eq_take_drop_succ, List.flatten_append]
theorem Fits.take {k : Nat} {css : List (List Value)} (h : Fits k css) (i : Nat) : Fits k (css.take i) := ⟨fun vs hv => h.1 vs (List.mem_of_mem_take hv), fun vs hv => h.2 vs (List.mem_of_mem_take hv)⟩
theorem Fits.drop {k : Nat} {css : List (List Value)} (h : Fits k css) (i : Nat) : Fits k (css.drop i) := ⟨fun vs hv => h.1 vs (List.mem_of_mem_drop hv), fun vs hv => h.2 vs (List.mem_of_mem_drop hv)⟩
theorem Fits.erase {k : Nat} {css : List (List Value)} (h : Fits k css) (i : Nat) : Fits k (css.eraseIdx i) := ⟨fun vs hv => h.1 vs (List.mem_of_mem_eraseIdx hv), fun vs hv => h.2 vs (List.mem_of_mem_eraseIdx hv)⟩

theorem DeleteAtom_spec (v : Value) (F : Frag) (css : List (List Value)) (h : Ghost) (i : Nat) (hf : Fits 6 css) (hr : Row F v 37 6 css.length css.flatten) (hi : i < css.length) (hn : css.length ≤ 1000000) :
    Sx.Spec Tryz.prog 40 [v, .int .i64 (i : Nat), .int .i64 ((i + 1 : Nat) : Int)] h [F] fun u _ F' => ∃ F1, F' = [F1] ∧ Row F1 u 37 6 (css.length - 1) (css.eraseIdx i).flatten := by
  rcases hr.2 with ⟨_, _, h0⟩ | ⟨b, cap, sp, rfl, rfl, hc, hl⟩
  · omega
  have hx : (css.flatten ++ sp) = (css.take i).flatten ++ (css[i] ++ ((css.drop (i + 1)).flatten ++ sp)) := by rw [flatten_split hi]; simp
  have hl1 : (css.take i).flatten.length = i * 6 := by rw [(hf.take i).len, List.length_take, Nat.min_eq_left (by omega)]
  have hl2 : (css.drop (i + 1)).flatten.length = (css.length - (i + 1)) * 6 := by rw [(hf.drop (i + 1)).len, List.length_drop]
  have hli : css[i].length = 6 := hf.1 _ (List.getElem_mem hi)
  rw [hx] at hl ⊢
  refine Spec.enter cl40 Tryz.func40 rfl Tryz.ntmps40 rfl fun E R => ?_
  refine Wc.seq ?_
  refine Wc.region ?_
  refine Wl.assign rfl rfl ?_
  refine Wl.nil ?_
  refine Wx.then_code ?_
  refine Wc.seq ?_
  refine Wc.region ?_
  refine Wl.move rfl rfl ?_
  refine Wl.move rfl rfl ?_
  refine Wl.move rfl rfl ?_
  refine Wl.move rfl rfl ?_
  refine Wl.slLen Tryz.underlying22 rfl rfl ?_
  refine Wl.slice3 sl22 rfl rfl rfl rfl rfl rfl rfl (Nat.le_succ i) hi hc rfl ?_
  refine Wl.nil ?_
  refine Wx.then_code ?_
  refine Wc.seq ?_
  refine Wc.seq ?_
  refine Wc.region ?_
  refine Wl.move rfl rfl ?_
  refine Wl.move rfl rfl ?_
  refine Wl.iEql rfl rfl rfl ?_
  refine Wl.nil ?_
  refine Wx.then_code ?_
  refine Wc.condS rfl (fun hc1 => ?_) (fun hc1 => ?_)
  refine Wc.seq ?_
  refine Wc.region ?_
  refine Wl.move rfl rfl ?_
  refine Wl.assign rfl rfl ?_
  refine Wl.nil ?_
  refine Wx.then_code ?_
  refine Wc.ret ?_
  refine Wx.then_ret ?_
  · exact absurd hc1 (by simp; omega)
  refine Wc.skip ?_
  refine Wx.then_code ?_
  refine Wc.seq ?_
  refine Wc.region ?_
  refine Wl.move rfl rfl ?_
  refine Wl.slLen Tryz.underlying22 rfl rfl ?_
  refine Wl.assign rfl rfl ?_
  refine Wl.nil ?_
  refine Wx.then_code ?_
  refine Wc.seq ?_
  apply Wc.draw (m := 6) (D := [[], [], [0, 1], [], [], [3, 4]]) (Ys := [.det _, .det _, .det (.slice (some ⟨b, 0, none⟩) i cap), .det _, .det _, .det (.slice (if cap = i + 1 then some ⟨b, 0, none⟩ else (some ⟨b, 0, none⟩ : Option Addr).map (·.add ((i + 1) * 6))) (css.length - (i + 1)) (cap - (i + 1)))])
  · exact follows
  · kernel_rfl
  · rfl
  · rfl
  · rfl
  · skip
    apply Locs.mk
    · intro env K' h' S' hs hd hl hY
      refine Wl.move (hs _ _ rfl) rfl ?_
      refine Wl.nil ?_
      exact Wx.gives0 _ (Ghost.le.refl _) ⟨rfl, rfl⟩ (Sub.refl _)
    apply Locs.mk
    · intro env K' h' S' hs hd hl hY
      refine Wl.move (hs _ _ rfl) rfl ?_
      refine Wl.nil ?_
      exact Wx.gives0 _ (Ghost.le.refl _) ⟨rfl, rfl⟩ (Sub.refl _)
    apply Locs.mk
    · intro env K' h' S' hs hd hl hY
      refine Wl.sliceHi sl22 (detL (hd 0 (by decide)) (hY 0 (by decide))) (detL (hd 1 (by decide)) (hY 1 (by decide))) rfl (by omega) rfl ?_
      refine Wl.nil ?_
      exact Wx.gives0 _ (Ghost.le.refl _) ⟨rfl, rfl⟩ (Sub.refl _)
    apply Locs.mk
    · intro env K' h' S' hs hd hl hY
      refine Wl.move (hs _ _ rfl) rfl ?_
      refine Wl.nil ?_
      exact Wx.gives0 _ (Ghost.le.refl _) ⟨rfl, rfl⟩ (Sub.refl _)
    apply Locs.mk
    · intro env K' h' S' hs hd hl hY
      refine Wl.move (hs _ _ rfl) rfl ?_
      refine Wl.nil ?_
      exact Wx.gives0 _ (Ghost.le.refl _) ⟨rfl, rfl⟩ (Sub.refl _)
    apply Locs.mk
    · intro env K' h' S' hs hd hl hY
      refine Wl.sliceLo sl22 (detL (hd 3 (by decide)) (hY 3 (by decide))) (detL (hd 4 (by decide)) (hY 4 (by decide))) rfl hi rfl ?_
      refine Wl.nil ?_
      exact Wx.gives0 _ (Ghost.le.refl _) ⟨rfl, rfl⟩ (Sub.refl _)
    trivial
  · exact ⟨trivial, trivial, trivial, trivial, trivial, trivial, trivial⟩
  intro h' hl'
  show Wl _ _ _ [_, _] _ ((25, _) :: (24, _) :: (23, _) :: (22, _) :: (21, _) :: (20, _) :: _) _ _ _
  refine Wl.appendIn [] _ (css.drop (i + 1)).flatten sl22 rfl rfl rfl hl1 hl rfl hl2 ?_ (hf.drop (i + 1)).flat (by omega) ?_
  · intro a w A j u hj
    have hj' : j < (css.drop (i + 1)).flatten.length := (List.getElem?_eq_some_iff.1 hj).1
    have hlt : i + 1 < cap := by
      rcases Nat.lt_or_ge (i + 1) css.length with h | h
      · omega
      · rw [hl2, Nat.sub_eq_zero_of_le h] at hj'; omega
    refine ⟨b, (i + 1) * 6, by rw [if_neg (by omega)]; simp only [Option.map_some, Addr.add_eq, Nat.zero_add], ?_⟩
    refine srcO (b := b) (o := (i + 1) * 6) (l := (css.take i).flatten ++ (css[i] ++ ((css.drop (i + 1)).flatten ++ sp))) (T := 37) rfl (by exact .here) ?_ a w A j u hj |>.elim fun b' h => ?_
    · intro j u hj
      have hj' : j < (css.drop (i + 1)).flatten.length := (List.getElem?_eq_some_iff.1 hj).1
      rw [List.getElem?_append_right (by rw [hl1, Nat.add_mul]; omega), List.getElem?_append_right (by rw [hl1, hli, Nat.add_mul]; omega), hl1, hli, List.getElem?_append_left (by rw [Nat.add_mul]; omega)]
      rw [← hj]; congr 1; rw [Nat.add_mul]; omega
    · obtain ⟨o', e1, e2⟩ := h
      cases e1; exact e2
  refine Wl.assign rfl rfl ?_
  refine Wl.nil ?_
  refine Wx.then_code ?_
  refine Wc.seq ?_
  refine Wc.region ?_
  refine Wl.move rfl rfl ?_
  refine Wl.move rfl rfl ?_
  refine Wl.slLen Tryz.underlying22 rfl rfl ?_
  refine Wl.move rfl rfl ?_
  have hlo : i + (css.length - (i + 1)) = css.length - 1 := by omega
  rw [hlo]
  refine Wl.slice (lo := css.length - 1) sl22 rfl rfl rfl rfl rfl (by omega) hc rfl ?_
  have he : (if cap = css.length - 1 then some (⟨b, 0, none⟩ : Addr) else (some (⟨b, 0, none⟩ : Addr)).map (·.add ((css.length - 1) * 6))) = some ⟨b, (css.length - 1) * 6, none⟩ := by rw [if_neg (by omega)]; simp only [Option.map_some, Addr.add_eq, Nat.zero_add]
  rw [he]
  refine Wl.clear [] _ rfl sl22 ty37.zero rfl rfl (zeroCells_one _ (by decide) rfl) ?_ fun l' e1 e2 => ?_
  · simp only [List.length_append, List.length_drop]; omega
  refine Wl.nil ?_
  refine Wx.then_code ?_
  refine Wc.seq ?_
  refine Wc.region ?_
  refine Wl.move rfl rfl ?_
  refine Wl.assign rfl rfl ?_
  refine Wl.nil ?_
  refine Wx.then_code ?_
  refine Wc.ret ?_
  have ht : List.take ((css.length - 1) * 6) ((css.take i).flatten ++ (css.drop (i + 1)).flatten ++ List.drop (css.drop (i + 1)).flatten.length (css[i] ++ ((css.drop (i + 1)).flatten ++ sp))) = (css.eraseIdx i).flatten := by
    rw [flatten_erase, List.take_left' (by rw [List.length_append, hl1, hl2, ← Nat.add_mul, hlo])]
  have hl3 : l' = (css.eraseIdx i).flatten ++ l'.drop ((css.length - 1) * 6) := by
    rw [← ht, ← e2, List.take_append_drop]
  refine Fin.keep (F' := [[(b, cells l' 37)]]) [] .ret (.inl rfl) (run_tmp rfl rfl) hl' fun _ _ => ⟨_, rfl, ?_⟩
  refine ⟨by rw [(hf.erase i).len, List.length_eraseIdx_of_lt hi], .inr ⟨b, cap, l'.drop ((css.length - 1) * 6), by rw [← hl3], rfl, by omega, ?_⟩⟩
  rw [← hl3, e1]
  simp only [List.length_append, List.length_drop] at hl ⊢; omega

theorem DeletePart_spec (v : Value) (F : Frag) (css : List (List Value)) (h : Ghost) (i : Nat) (hf : Fits 1 css) (hr : Row F v 24 1 css.length css.flatten) (hi : i < css.length) (hn : css.length ≤ 1000000) :
    Sx.Spec Tryz.prog 52 [v, .int .i64 (i : Nat), .int .i64 ((i + 1 : Nat) : Int)] h [F] fun u _ F' => ∃ F1, F' = [F1] ∧ Row F1 u 24 1 (css.length - 1) (css.eraseIdx i).flatten := by
  rcases hr.2 with ⟨_, _, h0⟩ | ⟨b, cap, sp, rfl, rfl, hc, hl⟩
  · omega
  have hx : (css.flatten ++ sp) = (css.take i).flatten ++ (css[i] ++ ((css.drop (i + 1)).flatten ++ sp)) := by rw [flatten_split hi]; simp
  have hl1 : (css.take i).flatten.length = i * 1 := by rw [(hf.take i).len, List.length_take, Nat.min_eq_left (by omega)]
  have hl2 : (css.drop (i + 1)).flatten.length = (css.length - (i + 1)) * 1 := by rw [(hf.drop (i + 1)).len, List.length_drop]
  have hli : css[i].length = 1 := hf.1 _ (List.getElem_mem hi)
  rw [hx] at hl ⊢
  refine Spec.enter cl52 Tryz.func52 rfl Tryz.ntmps52 rfl fun E R => ?_
  refine Wc.seq ?_
  refine Wc.region ?_
  refine Wl.assign rfl rfl ?_
  refine Wl.nil ?_
  refine Wx.then_code ?_
  refine Wc.seq ?_
  refine Wc.region ?_
  refine Wl.move rfl rfl ?_
  refine Wl.move rfl rfl ?_
  refine Wl.move rfl rfl ?_
  refine Wl.move rfl rfl ?_
  refine Wl.slLen Tryz.underlying39 rfl rfl ?_
  refine Wl.slice3 sl39 rfl rfl rfl rfl rfl rfl rfl (Nat.le_succ i) hi hc rfl ?_
  refine Wl.nil ?_
  refine Wx.then_code ?_
  refine Wc.seq ?_
  refine Wc.seq ?_
  refine Wc.region ?_
  refine Wl.move rfl rfl ?_
  refine Wl.move rfl rfl ?_
  refine Wl.iEql rfl rfl rfl ?_
  refine Wl.nil ?_
  refine Wx.then_code ?_
  refine Wc.condS rfl (fun hc1 => ?_) (fun hc1 => ?_)
  refine Wc.seq ?_
  refine Wc.region ?_
  refine Wl.move rfl rfl ?_
  refine Wl.assign rfl rfl ?_
  refine Wl.nil ?_
  refine Wx.then_code ?_
  refine Wc.ret ?_
  refine Wx.then_ret ?_
  · exact absurd hc1 (by simp; omega)
  refine Wc.skip ?_
  refine Wx.then_code ?_
  refine Wc.seq ?_
  refine Wc.region ?_
  refine Wl.move rfl rfl ?_
  refine Wl.slLen Tryz.underlying39 rfl rfl ?_
  refine Wl.assign rfl rfl ?_
  refine Wl.nil ?_
  refine Wx.then_code ?_
  refine Wc.seq ?_
  apply Wc.draw (m := 6) (D := [[], [], [0, 1], [], [], [3, 4]]) (Ys := [.det _, .det _, .det (.slice (some ⟨b, 0, none⟩) i cap), .det _, .det _, .det (.slice (if cap = i + 1 then some ⟨b, 0, none⟩ else (some ⟨b, 0, none⟩ : Option Addr).map (·.add ((i + 1) * 1))) (css.length - (i + 1)) (cap - (i + 1)))])
  · exact follows
  · kernel_rfl
  · rfl
  · rfl
  · rfl
  · skip
    apply Locs.mk
    · intro env K' h' S' hs hd hl hY
      refine Wl.move (hs _ _ rfl) rfl ?_
      refine Wl.nil ?_
      exact Wx.gives0 _ (Ghost.le.refl _) ⟨rfl, rfl⟩ (Sub.refl _)
    apply Locs.mk
    · intro env K' h' S' hs hd hl hY
      refine Wl.move (hs _ _ rfl) rfl ?_
      refine Wl.nil ?_
      exact Wx.gives0 _ (Ghost.le.refl _) ⟨rfl, rfl⟩ (Sub.refl _)
    apply Locs.mk
    · intro env K' h' S' hs hd hl hY
      refine Wl.sliceHi sl39 (detL (hd 0 (by decide)) (hY 0 (by decide))) (detL (hd 1 (by decide)) (hY 1 (by decide))) rfl (by omega) rfl ?_
      refine Wl.nil ?_
      exact Wx.gives0 _ (Ghost.le.refl _) ⟨rfl, rfl⟩ (Sub.refl _)
    apply Locs.mk
    · intro env K' h' S' hs hd hl hY
      refine Wl.move (hs _ _ rfl) rfl ?_
      refine Wl.nil ?_
      exact Wx.gives0 _ (Ghost.le.refl _) ⟨rfl, rfl⟩ (Sub.refl _)
    apply Locs.mk
    · intro env K' h' S' hs hd hl hY
      refine Wl.move (hs _ _ rfl) rfl ?_
      refine Wl.nil ?_
      exact Wx.gives0 _ (Ghost.le.refl _) ⟨rfl, rfl⟩ (Sub.refl _)
    apply Locs.mk
    · intro env K' h' S' hs hd hl hY
      refine Wl.sliceLo sl39 (detL (hd 3 (by decide)) (hY 3 (by decide))) (detL (hd 4 (by decide)) (hY 4 (by decide))) rfl hi rfl ?_
      refine Wl.nil ?_
      exact Wx.gives0 _ (Ghost.le.refl _) ⟨rfl, rfl⟩ (Sub.refl _)
    trivial
  · exact ⟨trivial, trivial, trivial, trivial, trivial, trivial, trivial⟩
  intro h' hl'
  show Wl _ _ _ [_, _] _ ((25, _) :: (24, _) :: (23, _) :: (22, _) :: (21, _) :: (20, _) :: _) _ _ _
  refine Wl.appendIn [] _ (css.drop (i + 1)).flatten sl39 rfl rfl rfl hl1 hl rfl hl2 ?_ (hf.drop (i + 1)).flat (by omega) ?_
  · intro a w A j u hj
    have hj' : j < (css.drop (i + 1)).flatten.length := (List.getElem?_eq_some_iff.1 hj).1
    have hlt : i + 1 < cap := by
      rcases Nat.lt_or_ge (i + 1) css.length with h | h
      · omega
      · rw [hl2, Nat.sub_eq_zero_of_le h] at hj'; omega
    refine ⟨b, (i + 1) * 1, by rw [if_neg (by omega)]; simp only [Option.map_some, Addr.add_eq, Nat.zero_add], ?_⟩
    refine srcO (b := b) (o := (i + 1) * 1) (l := (css.take i).flatten ++ (css[i] ++ ((css.drop (i + 1)).flatten ++ sp))) (T := 24) rfl (by exact .here) ?_ a w A j u hj |>.elim fun b' h => ?_
    · intro j u hj
      have hj' : j < (css.drop (i + 1)).flatten.length := (List.getElem?_eq_some_iff.1 hj).1
      rw [List.getElem?_append_right (by rw [hl1, Nat.add_mul]; omega), List.getElem?_append_right (by rw [hl1, hli, Nat.add_mul]; omega), hl1, hli, List.getElem?_append_left (by rw [Nat.add_mul]; omega)]
      rw [← hj]; congr 1; rw [Nat.add_mul]; omega
    · obtain ⟨o', e1, e2⟩ := h
      cases e1; exact e2
  refine Wl.assign rfl rfl ?_
  refine Wl.nil ?_
  refine Wx.then_code ?_
  refine Wc.seq ?_
  refine Wc.region ?_
  refine Wl.move rfl rfl ?_
  refine Wl.move rfl rfl ?_
  refine Wl.slLen Tryz.underlying39 rfl rfl ?_
  refine Wl.move rfl rfl ?_
  have hlo : i + (css.length - (i + 1)) = css.length - 1 := by omega
  rw [hlo]
  refine Wl.slice (lo := css.length - 1) sl39 rfl rfl rfl rfl rfl (by omega) hc rfl ?_
  have he : (if cap = css.length - 1 then some (⟨b, 0, none⟩ : Addr) else (some (⟨b, 0, none⟩ : Addr)).map (·.add ((css.length - 1) * 1))) = some ⟨b, (css.length - 1) * 1, none⟩ := by rw [if_neg (by omega)]; simp only [Option.map_some, Addr.add_eq, Nat.zero_add]
  rw [he]
  refine Wl.clear [] _ rfl sl39 ty24.zero rfl rfl (zeroCells_one _ (by decide) rfl) ?_ fun l' e1 e2 => ?_
  · simp only [List.length_append, List.length_drop]; omega
  refine Wl.nil ?_
  refine Wx.then_code ?_
  refine Wc.seq ?_
  refine Wc.region ?_
  refine Wl.move rfl rfl ?_
  refine Wl.assign rfl rfl ?_
  refine Wl.nil ?_
  refine Wx.then_code ?_
  refine Wc.ret ?_
  have ht : List.take ((css.length - 1) * 1) ((css.take i).flatten ++ (css.drop (i + 1)).flatten ++ List.drop (css.drop (i + 1)).flatten.length (css[i] ++ ((css.drop (i + 1)).flatten ++ sp))) = (css.eraseIdx i).flatten := by
    rw [flatten_erase, List.take_left' (by rw [List.length_append, hl1, hl2, ← Nat.add_mul, hlo])]
  have hl3 : l' = (css.eraseIdx i).flatten ++ l'.drop ((css.length - 1) * 1) := by
    rw [← ht, ← e2, List.take_append_drop]
  refine Fin.keep (F' := [[(b, cells l' 24)]]) [] .ret (.inl rfl) (run_tmp rfl rfl) hl' fun _ _ => ⟨_, rfl, ?_⟩
  refine ⟨by rw [(hf.erase i).len, List.length_eraseIdx_of_lt hi], .inr ⟨b, cap, l'.drop ((css.length - 1) * 1), by rw [← hl3], rfl, by omega, ?_⟩⟩
  rw [← hl3, e1]
  simp only [List.length_append, List.length_drop] at hl ⊢; omega
end Go.Proofs.YtgpmjggdloldnaaGreatDoor

namespace Go.Proofs.YtgpmjggdloldnaaGreatDoor
open Go Go.Sx
set_option maxRecDepth 100000
structure Place where
  feature : ByteArray
  term : ByteArray
  deriving DecidableEq
structure Pair where
  a : ByteArray
  b : ByteArray
  deriving DecidableEq
structure Ival where
  lo : Int
  hi : Int
  deriving DecidableEq
def Place.enc (p : Place) : List Value := [.string p.feature, .string p.term]
def Pair.enc (p : Pair) : List Value := [.string p.a, .string p.b]
def Ival.enc (p : Ival) : List Value := [.int .i64 p.lo, .int .i64 p.hi]
theorem toList_inj {a b : ByteArray} : a.toList = b.toList ↔ a = b := by
  constructor
  · intro h
    rw [ByteArray.toList_eq, ByteArray.toList_eq] at h
    obtain ⟨⟨x⟩⟩ := a; obtain ⟨⟨y⟩⟩ := b; simp_all
  · rintro rfl; rfl
theorem beq_str (a b : ByteArray) : (a.toList == b.toList) = decide (a = b) := by
  by_cases h : a = b
  · subst h; simp
  · have : ¬ a.toList = b.toList := fun e => h (toList_inj.1 e)
    simp [h, this]
theorem eqPlace : EqOK Tryz.prog 90 Place.enc fun a b => decide (a = b) := ⟨by kernel_rfl, fun a b w => by
  have u9 := Tryz.underlying9
  have a9 := Tryz.isAgg9
  have z9 := Tryz.sizeOf9
  have hS : Tryz.prog.underlying 90 = some (.struct (Tryz.prog.fieldsOf 90)) := by kernel_rfl
  have hp : Tryz.prog.stoodInHeld 90 = false := by kernel_rfl
  rw [show (10000 : Nat) = 9999 + 1 from rfl, run_equalIn_agg w 9999 90 _ _ hS hp]
  simp only [Program.fieldsOf, Tryz.underlying90, Place.enc]
  go_simp
  obtain ⟨a1, a2⟩ := a; obtain ⟨b1, b2⟩ := b
  simp only [Place.mk.injEq]
  by_cases h1 : a1 = b1 <;> by_cases h2 : a2 = b2 <;> simp [toList_inj, h1, h2]⟩
theorem eqAtom : EqOK Tryz.prog 37 Atom.enc fun a b => decide (a = b) := ⟨by kernel_rfl, fun a b w => by
  have u9 := Tryz.underlying9
  have a9 := Tryz.isAgg9
  have z9 := Tryz.sizeOf9
  have u3 := Tryz.underlying3
  have a3 := Tryz.isAgg3
  have z3 := Tryz.sizeOf3
  have hS : Tryz.prog.underlying 37 = some (.struct (Tryz.prog.fieldsOf 37)) := by kernel_rfl
  have hp : Tryz.prog.stoodInHeld 37 = false := by kernel_rfl
  rw [show (10000 : Nat) = 9999 + 1 from rfl, run_equalIn_agg w 9999 37 _ _ hS hp]
  simp only [Program.fieldsOf, Tryz.underlying37, Atom.enc]
  go_simp
  obtain ⟨a1, a2, a3, a4, a5, a6⟩ := a; obtain ⟨b1, b2, b3, b4, b5, b6⟩ := b
  simp only [Atom.mk.injEq]
  by_cases h1 : a1 = b1 <;> by_cases h2 : a2 = b2 <;> by_cases h3 : a3 = b3 <;> by_cases h4 : a4 = b4 <;> by_cases h5 : a5 = b5 <;> by_cases h6 : a6 = b6 <;> simp [toList_inj, h1, h2, h3, h4, h5, h6]⟩
theorem eqPair : EqOK Tryz.prog 78 Pair.enc fun a b => decide (a = b) := ⟨by kernel_rfl, fun a b w => by
  have u9 := Tryz.underlying9
  have a9 := Tryz.isAgg9
  have z9 := Tryz.sizeOf9
  rw [show (10000 : Nat) = 9999 + 1 from rfl, Op.equalIn]
  simp only [Sem.run_bind, run_underlying Tryz.underlying78, Result.andThen_ok, Pair.enc]
  simp only [Std.Legacy.Range.forIn_eq_forIn_range', Std.Legacy.Range.size, Nat.sub_zero, Nat.add_sub_cancel, Nat.div_one, List.range'_succ, List.range'_zero, List.forIn_cons, List.forIn_nil]
  go_simp
  obtain ⟨a1, a2⟩ := a; obtain ⟨b1, b2⟩ := b
  simp only [Pair.mk.injEq]
  by_cases h1 : a1 = b1 <;> by_cases h2 : a2 = b2 <;> simp [toList_inj, h1, h2]⟩
theorem kplace : KeyOK Tryz.prog 90 fun p : Place => .agg p.enc.toArray := by
  refine KeyOK.struct Tryz.underlying90 (fun b x w => ?_) (fun x w => ?_) eqPlace
  · have u9 := Tryz.underlying9
    have a9 := Tryz.isAgg9
    have z9 := Tryz.sizeOf9
    have h0 : ∀ (m : Nat) (s : ByteArray) (w : World), (Instr.checkKey b (m + 1) 9 (.string s)).run Tryz.prog w = .ok () w := fun m s w => by
      rw [Instr.checkKey]; simp [run_underlying u9]
    have h1 : ∀ m w, (Instr.checkKey b (m + 1 + 1) 90 (.agg x.enc.toArray)).run Tryz.prog w = .ok () w := fun m w => by
      rw [Instr.checkKey]
      simp only [Sem.run_bind, run_underlying Tryz.underlying90, Result.andThen_ok, Place.enc]
      go_simp
    exact h1 9998 w
  · have h1 : ∀ s : ByteArray, (s == s) = true := fun s => by rw [beq_toListBytes]; simp
    have h2 : ∀ m, Instr.sameBits (m + 1 + 1) (.agg x.enc.toArray) (.agg x.enc.toArray) = true := fun m => by
      simp [Instr.sameBits, Place.enc, h1]
    have := h2 9998
    simp [Instr.keyThatStays, this]
end Go.Proofs.YtgpmjggdloldnaaGreatDoor

namespace Go.Proofs.YtgpmjggdloldnaaGreatDoor
open Go Go.Sx
set_option maxRecDepth 100000
theorem flat_at {α : Type} {enc : α → List Value} {k : Nat} (hk : ∀ x, (enc x).length = k) : ∀ {l : List α} {i : Nat} {x : α} {sp : List Value}, l[i]? = some x → ∀ j u, (enc x)[j]? = some u → (l.flatMap enc ++ sp)[i * k + j]? = some u
  | [], i, x, sp, h, j, u, hj => by simp at h
  | y :: l, 0, x, sp, h, j, u, hj => by
    simp at h; subst h
    have : j < (enc y).length := (List.getElem?_eq_some_iff.1 hj).1
    rw [List.flatMap_cons, List.append_assoc, Nat.zero_mul, Nat.zero_add, List.getElem?_append_left this]; exact hj
  | y :: l, i + 1, x, sp, h, j, u, hj => by
    rw [List.flatMap_cons, List.append_assoc, List.getElem?_append_right (by rw [hk, Nat.add_mul]; omega), hk, show (i + 1) * k + j - k = i * k + j by rw [Nat.add_mul]; omega]
    exact flat_at hk (by simpa using h) j u hj
theorem IndexPair_spec (v : Value) (F : Frag) (l : List Pair) (p : Pair) (h : Ghost) (hr : Row F v 78 2 l.length (l.flatMap Pair.enc)) (hl : l.length ≤ 1000000) :
    Sx.Spec Tryz.prog 78 [v, .agg p.enc.toArray] h [F] fun u _ F' => F' = [F] ∧ ∃ c : Int, u = .int .i64 c ∧ (0 ≤ c ↔ p ∈ l) := by
  have hv : ∃ ao cap, v = .slice ao l.length cap := by
    rcases hr.2 with ⟨_, rfl, h0⟩ | ⟨b, cap, sp, _, rfl, _, _⟩
    · exact ⟨none, 0, by rw [h0]⟩
    · exact ⟨_, _, rfl⟩
  obtain ⟨ao, cap, rfl⟩ := hv
  refine Spec.enter cl78 Tryz.func78 rfl Tryz.ntmps78 rfl fun E R => ?_
  refine Wc.seq ?_
  refine Wc.region ?_
  refine Wl.box rfl (by rfl) rfl (fun b1 => ?_)
  refine Wl.assign rfl rfl ?_
  refine Wl.nil ?_
  refine Wx.then_code ?_
  refine Wc.seq ?_
  refine Wc.seq ?_
  refine Wc.region ?_
  refine Wl.move rfl rfl ?_
  refine Wl.slLen Tryz.underlying75 rfl rfl ?_
  refine Wl.move rfl rfl ?_
  refine Wl.nil ?_
  refine Wx.then_code ?_
  refine Wc.block ?_
  refine Wc.loop (ι := Nat) (fun i => i ≤ l.length ∧ p ∉ l.take i) (fun i => [(0, .slice ao l.length cap), (3, .pointer (some ⟨b1, 0, none⟩)), (7, .int .i64 l.length), (8, .int .i64 i)]) (fun _ => _) (fun _ => _) (fun i => l.length - i) 0
    ⟨Nat.zero_le _, by simp⟩ (.cons rfl (.cons rfl (.cons rfl (.cons rfl (.nil _))))) rfl rfl fun i ⟨hi, hno⟩ => ?_
  refine Wc.seq ?_
  refine Wc.region ?_
  refine Wl.iLss rfl rfl rfl ?_
  refine Wl.nil ?_
  refine Wx.then_code ?_
  refine Wc.seq ?_
  refine Wc.condS rfl (fun hc1 => ?_) (fun hc1 => ?_)
  refine Wc.skip ?_
  refine Wx.then_code ?_
  refine Wc.seq ?_
  refine Wc.block ?_
  refine Wc.seq ?_
  refine Wc.region ?_
  refine Wl.move rfl rfl ?_
  refine Wl.assign rfl rfl ?_
  refine Wl.nil ?_
  refine Wx.then_code ?_
  refine Wc.seq ?_
  have hlt1 : i < l.length := by have := of_decide_eq_true hc1; omega
  have hx := List.getElem?_eq_getElem hlt1
  have hb : ∃ b sp, F = [(b, cells (l.flatMap Pair.enc ++ sp) 78)] ∧ ao = some ⟨b, 0, none⟩ := by
    rcases hr.2 with ⟨_, _, h0⟩ | ⟨b, cap, sp, h1, h2, _, _⟩
    · omega
    · cases h2; exact ⟨b, sp, h1, rfl⟩
  obtain ⟨b, sp, hF, ha⟩ := hb
  subst hF ha
  have hcell := flat_at (enc := Pair.enc) (k := 2) (sp := sp) (fun _ => rfl) hx
  apply Wc.draw (m := 6) (D := [[], [], [], [1, 2], [3], [0, 4]]) (Ys := [.det _, .det _, .det _, .det (.pointer (some ⟨b, 0 + i * 2, none⟩)), .det (.agg l[i].enc.toArray), .det (.bool (decide (p = l[i])))])
  · exact follows
  · kernel_rfl
  · rfl
  · rfl
  · rfl
  · skip
    apply Locs.mk
    · intro env K' h' S' hs hd hl hY
      refine Wl.loadOA ty78 (hs _ _ rfl) (Has.right (by repeat (first | exact .here | apply Has.there))) rfl rfl ?_
      refine Wl.nil ?_
      exact Wx.gives0 _ (Ghost.le.refl _) ⟨rfl, rfl⟩ (Sub.refl _)
    apply Locs.mk
    · intro env K' h' S' hs hd hl hY
      refine Wl.move (hs _ _ rfl) rfl ?_
      refine Wl.nil ?_
      exact Wx.gives0 _ (Ghost.le.refl _) ⟨rfl, rfl⟩ (Sub.refl _)
    apply Locs.mk
    · intro env K' h' S' hs hd hl hY
      refine Wl.move (hs _ _ rfl) rfl ?_
      refine Wl.nil ?_
      exact Wx.gives0 _ (Ghost.le.refl _) ⟨rfl, rfl⟩ (Sub.refl _)
    apply Locs.mk
    · intro env K' h' S' hs hd hl hY
      refine Wl.elem sl75 (detL (hd 1 (by decide)) (hY 1 (by decide))) (detL (hd 2 (by decide)) (hY 2 (by decide))) rfl hlt1 rfl ?_
      refine Wl.nil ?_
      exact Wx.gives0 _ (Ghost.le.refl _) ⟨rfl, rfl⟩ (Sub.refl _)
    apply Locs.mk
    · intro env K' h' S' hs hd hl hY
      refine Wl.loadOAt ty78 (detL (hd 3 (by decide)) (hY 3 (by decide))) (Has.right (by repeat (first | exact .here | apply Has.there))) rfl (fun j u hj => by rw [Nat.zero_add]; exact hcell j u hj) rfl ?_
      refine Wl.nil ?_
      exact Wx.gives0 _ (Ghost.le.refl _) ⟨rfl, rfl⟩ (Sub.refl _)
    apply Locs.mk
    · intro env K' h' S' hs hd hl hY
      refine Wl.aEql p l[i] eqPair (detL (hd 0 (by decide)) (hY 0 (by decide))) (detL (hd 4 (by decide)) (hY 4 (by decide))) rfl ?_
      refine Wl.nil ?_
      exact Wx.gives0 _ (Ghost.le.refl _) ⟨rfl, rfl⟩ (Sub.refl _)
    trivial
  · exact ⟨trivial, trivial, trivial, trivial, trivial, trivial, trivial⟩
  intro h' hl'
  show Wl _ _ _ [] _ ((16, _) :: (15, _) :: (14, _) :: (13, _) :: (12, _) :: (11, _) :: _) _ _ _
  refine Wl.nil ?_
  refine Wx.then_code ?_
  refine Wc.condS rfl (fun hc2 => ?_) (fun hc2 => ?_)
  refine Wc.seq ?_
  refine Wc.region ?_
  refine Wl.move rfl rfl ?_
  refine Wl.assign rfl rfl ?_
  refine Wl.nil ?_
  refine Wx.then_code ?_
  refine Wc.ret ?_
  refine Wx.block_ret ?_
  refine Wx.then_ret ?_
  refine Wx.then_ret ?_
  refine Wx.block_ret ?_
  refine Wx.then_ret ?_
  · refine Fin.keep (F' := [_]) [_] .ret (.inl rfl) (run_tmp rfl rfl) hl' fun _ _ => ⟨rfl, _, rfl, ?_⟩
    have := of_decide_eq_true hc2
    exact ⟨fun _ => this ▸ List.getElem_mem hlt1, fun _ => by omega⟩
  refine Wc.skip ?_
  refine Wx.block_normal ?_
  refine Wx.then_code ?_
  refine Wc.region ?_
  refine Wl.inc rfl rfl (by first | assumption | omega | (have hx := of_decide_eq_true hc2; omega) | (have hx := of_decide_eq_true hc1; omega)) ?_
  refine Wl.move rfl rfl ?_
  refine Wl.nil ?_
  · refine Wx.weak hl' (Wx.again (i + 1) ⟨hlt1, ?_⟩ (by omega) (.cons rfl (.cons rfl (.cons rfl (.cons rfl (.nil _))))) rfl .refl)
    rw [List.take_add_one, hx]
    have := of_decide_eq_false hc2
    simp only [List.mem_append, not_or]; exact ⟨hno, by simpa using this⟩
  refine Wc.exit ?_
  refine Wx.then_exit ?_
  refine Wx.then_exit ?_
  refine Wx.block_exit ?_
  refine Wx.then_code ?_
  refine Wc.seq ?_
  refine Wc.region ?_
  refine Wl.assign rfl rfl ?_
  refine Wl.nil ?_
  refine Wx.then_code ?_
  refine Wc.ret ?_
  · refine Fin.keep (F' := [_]) [_] .ret (.inl rfl) (run_tmp rfl rfl) (Ghost.le.refl _) fun _ _ => ⟨rfl, _, rfl, ?_⟩
    have hi' : i = l.length := by have := of_decide_eq_false hc1; omega
    rw [hi', List.take_length] at hno
    exact ⟨fun h => absurd h (by decide), fun h => absurd h hno⟩
theorem ContainsPair_spec (v : Value) (F : Frag) (l : List Pair) (p : Pair) (h : Ghost) (hr : Row F v 78 2 l.length (l.flatMap Pair.enc)) (hl : l.length ≤ 1000000) :
    SpecK Tryz.prog 59 [v, .agg p.enc.toArray] h [F] (.bool (decide (p ∈ l))) := by
  refine Spec.enter cl59 Tryz.func59 rfl Tryz.ntmps59 rfl fun E R => ?_
  refine Wc.seq ?_
  refine Wc.region ?_
  refine Wl.box rfl (by rfl) rfl (fun b1 => ?_)
  refine Wl.assign rfl rfl ?_
  refine Wl.nil ?_
  refine Wx.then_code ?_
  refine Wc.seq ?_
  refine Wc.region ?_
  refine Wl.move rfl rfl ?_
  refine Wl.loadOA ty78 rfl (by repeat (first | exact .here | apply Has.there)) rfl rfl ?_
  refine Wl.callA [_] _ rfl rfl rfl rfl (IndexPair_spec v F l p h hr hl) rfl fun u h' F' hl' ⟨hF, c, hu, hc⟩ => ?_
  subst hF hu
  refine Wl.iGeq rfl rfl rfl ?_
  refine Wl.assign rfl rfl ?_
  refine Wl.nil ?_
  refine Wx.then_code ?_
  refine Wc.ret ?_
  refine endK .ret (.inl rfl) rfl rfl [_] hl' ?_
  rw [Value.bool.injEq]; exact decide_eq_decide.2 hc
/-! ### the closures of contained -/
theorem free_spec (s : ByteArray) (h : Ghost) (tv : Value) (told : List ByteArray) (b : Nat) (hb : Seg h b 0 [tv]) (ht : Strs h tv told) (hlt : told.length ≤ 1000000) :
    SpecV Tryz.prog 34 [.string s, .pointer (some ⟨b, 0, none⟩)] h (.bool (hiddenB told s)) := by
  obtain ⟨ta, tc, rfl, htc⟩ := ht.shape
  refine SpecP.enter cl34 Tryz.func34 rfl Tryz.ntmps34 rfl fun E R => ?_
  refine Wc.seq ?_
  refine Wc.region ?_
  refine Wl.assign rfl rfl ?_
  refine Wl.nil ?_
  refine Wx.then_code ?_
  refine Wc.seq ?_
  refine Wc.region ?_
  refine Wl.move rfl rfl ?_
  refine Wl.callV rfl rfl rfl (HasPrefix_spec s _ h) ?_
  refine Wl.move rfl rfl ?_
  apply Wl.andB (l1 := [_, _, _, _, _]) (i := 6) (d := 11)
  · rfl
  · intro hg1
    refine Wl.guardYes rfl rfl ?_
    refine Wl.loadG1 ty25 rfl hb rfl ?_
    refine Wl.guardYes rfl rfl ?_
    refine Wl.move rfl rfl ?_
    refine Wl.guardYes rfl rfl ?_
    refine Wl.callV rfl rfl rfl (Contains_spec _ told s h ht (by omega)) ?_
    refine Wl.guardYes rfl rfl ?_
    refine Wl.not rfl rfl ?_
    refine Wl.pickT rfl rfl rfl ?_
    refine Wl.nil ?_
    exact Wx.reach (.cons rfl (.skip rfl (.skip rfl (.skip rfl (.skip rfl (.skip rfl (.same rfl (by rw [hg1]) (.refl _))))))))
  · intro hg1
    refine Wl.guardNo rfl rfl rfl rfl ?_
    refine Wl.guardNo rfl rfl rfl rfl ?_
    refine Wl.guardNo rfl rfl rfl rfl ?_
    refine Wl.guardNo rfl rfl rfl rfl ?_
    refine Wl.pickF rfl rfl rfl ?_
    refine Wl.nil ?_
    exact Wx.reach (.cons rfl (.skip rfl (.skip rfl (.skip rfl (.skip rfl (.skip rfl (.same rfl (by rw [hg1]) (.refl _))))))))
  refine Wl.assign rfl rfl ?_
  refine Wl.nil ?_
  refine Wx.then_code ?_
  refine Wc.ret ?_
  exact endV .ret (.inl rfl) rfl rfl [] (Ghost.le.refl _) rfl
def freeV (bT : Nat) : Value := .func (.func 34) #[] #[.pointer (some ⟨bT, 0, none⟩)]
def fitsB (told : List ByteArray) (f : ByteArray → Option ByteArray) (x y : ByteArray) : Bool := if hiddenB told x then match f x with | none => true | some u => decide (u = y) else decide (x = y)
/-- what the closures hold -/
structure Caps (h : Ghost) (ts : List ByteArray) (bT bF bB bm : Nat) : Prop where
  told : ∃ tv, Seg h bT 0 [tv] ∧ Strs h tv ts
  free : Seg h bF 0 [freeV bT]
  bound : Seg h bB 0 [.map (some bm)]
  few : List.length ts ≤ 1000000
theorem Caps.mono {h h' : Ghost} {told : List ByteArray} {bT bF bB bm : Nat} (c : Caps h told bT bF bB bm) (hl : h.le h') : Caps h' told bT bF bB bm :=
  ⟨let ⟨tv, h1, h2⟩ := c.told; ⟨tv, h1.mono hl, h2.mono hl⟩, c.free.mono hl, c.bound.mono hl, c.few⟩
theorem fits_spec (x y : ByteArray) (h : Ghost) (told : List ByteArray) (bT bF bB bm : Nat) (c : Caps h told bT bF bB bm) (F : Frag) (f : ByteArray → Option ByteArray) (hF : Mp F bm Value.string Value.string f) :
    SpecK Tryz.prog 37 [.string x, .string y, .pointer (some ⟨bF, 0, none⟩), .pointer (some ⟨bB, 0, none⟩)] h [F] (.bool (fitsB told f x y)) := by
  obtain ⟨tv, hT, htv⟩ := c.told
  refine Spec.enter cl37 Tryz.func37 rfl Tryz.ntmps37 rfl fun E R => ?_
  refine Wc.seq ?_
  refine Wc.region ?_
  refine Wl.assign rfl rfl ?_
  refine Wl.nil ?_
  refine Wx.then_code ?_
  refine Wc.seq ?_
  refine Wc.seq ?_
  refine Wc.region ?_
  refine Wl.loadG1 ty72 rfl c.free rfl ?_
  refine Wl.move rfl rfl ?_
  refine Wl.callV rfl rfl rfl (free_spec x h tv told bT hT htv c.few) ?_
  refine Wl.not rfl rfl ?_
  refine Wl.nil ?_
  refine Wx.then_code ?_
  refine Wc.condS rfl (fun hc1 => ?_) (fun hc1 => ?_)
  refine Wc.seq ?_
  refine Wc.region ?_
  refine Wl.move rfl rfl ?_
  refine Wl.move rfl rfl ?_
  refine Wl.sEql rfl rfl rfl ?_
  refine Wl.assign rfl rfl ?_
  refine Wl.nil ?_
  refine Wx.then_code ?_
  refine Wc.ret ?_
  refine Wx.then_ret ?_
  · exact endK .ret (.inl rfl) rfl rfl [] (Ghost.le.refl _) (by rw [fitsB, if_neg (by simpa using hc1), beq_str])
  refine Wc.skip ?_
  refine Wx.then_code ?_
  refine Wc.seq ?_
  refine Wc.region ?_
  refine Wl.loadG1 ty69 rfl c.bound rfl ?_
  refine Wl.move rfl rfl ?_
  refine Wl.lookupOk [] _ x Tryz.underlying69 kstr ty9.zero rfl rfl rfl hF rfl ?_
  rw [show ((f x).map Value.string).getD (.string ⟨#[]⟩) = .string ((f x).getD ⟨#[]⟩) by cases f x <;> rfl]
  refine Wl.move rfl rfl ?_
  refine Wl.extract rfl rfl rfl ?_
  refine Wl.extract rfl rfl rfl ?_
  refine Wl.assign rfl rfl ?_
  refine Wl.assign rfl rfl ?_
  refine Wl.nil ?_
  refine Wx.then_code ?_
  refine Wc.seq ?_
  refine Wc.region ?_
  refine Wl.move rfl rfl ?_
  refine Wl.not rfl rfl ?_
  refine Wl.move rfl rfl ?_
  apply Wl.orB (l1 := [_, _, _, _]) (i := 24) (d := 28)
  · rfl
  · intro hg2
    refine Wl.guardNo rfl rfl rfl rfl ?_
    refine Wl.guardNo rfl rfl rfl rfl ?_
    refine Wl.guardNo rfl rfl rfl rfl ?_
    refine Wl.pickT rfl rfl rfl ?_
    refine Wl.nil ?_
    exact Wx.reach (.cons rfl (.skip rfl (.skip rfl (.skip rfl (.skip rfl (.same rfl (by rw [hg2]) (.refl _)))))))
  · intro hg2
    refine Wl.guardYes rfl rfl ?_
    refine Wl.move rfl rfl ?_
    refine Wl.guardYes rfl rfl ?_
    refine Wl.move rfl rfl ?_
    refine Wl.guardYes rfl rfl ?_
    refine Wl.sEql rfl rfl rfl ?_
    refine Wl.pickF rfl rfl rfl ?_
    refine Wl.nil ?_
    exact Wx.reach (.cons rfl (.skip rfl (.skip rfl (.skip rfl (.skip rfl (.same rfl (by rw [hg2]) (.refl _)))))))
  refine Wl.assign rfl rfl ?_
  refine Wl.nil ?_
  refine Wx.then_code ?_
  refine Wc.ret ?_
  · exact endK .ret (.inl rfl) rfl rfl [] (Ghost.le.refl _) (by
      rw [fitsB, if_pos (by simpa using hc1)]
      cases f x <;> simp [beq_str])
end Go.Proofs.YtgpmjggdloldnaaGreatDoor

namespace Go.Proofs.YtgpmjggdloldnaaGreatDoor
open Go Go.Sx
set_option maxRecDepth 100000
theorem _root_.Go.Sx.Row.shape {F : Frag} {v : Value} {e : TypeId} {k n : Nat} {xs : List Value} (hr : Row F v e k n xs) : ∃ ao cap, v = .slice ao n cap := by
  rcases hr.2 with ⟨_, rfl, h0⟩ | ⟨b, cap, sp, _, rfl, _, _⟩
  · exact ⟨none, 0, by rw [h0]⟩
  · exact ⟨_, _, rfl⟩
def addP (l : List Pair) (p : Pair) : List Pair := if p ∈ l then l else l ++ [p]
def PairRow (F : Frag) (v : Value) (l : List Pair) : Prop := Row F v 78 2 l.length (l.flatMap Pair.enc)
theorem one_pair (p : Pair) : ∀ u ∈ p.enc, Sx.one u := fun u hu => by
  simp only [Pair.enc, List.mem_cons, List.not_mem_nil, or_false] at hu
  rcases hu with rfl | rfl <;> rfl
theorem add_spec (v : Value) (F : Frag) (l : List Pair) (p : Pair) (h : Ghost) (b : Nat) (hr : PairRow F v l) (hl : l.length < 1000000) :
    Sx.Spec Tryz.prog 58 [.agg p.enc.toArray, .pointer (some ⟨b, 0, none⟩)] h [F, [(b, cells [v] 75)]] fun u _ F' => u = .tuple #[] ∧ ∃ v' F1, F' = [F1, [(b, cells [v'] 75)]] ∧ PairRow F1 v' (addP l p) := by
  have hv : ∃ ao cap, v = .slice ao l.length cap := by
    rcases hr.2 with ⟨_, rfl, h0⟩ | ⟨b, cap, sp, _, rfl, _, _⟩
    · exact ⟨none, 0, by rw [h0]⟩
    · exact ⟨_, _, rfl⟩
  obtain ⟨ao, cap, rfl⟩ := hv
  refine Spec.enter cl58 Tryz.func58 rfl Tryz.ntmps58 rfl fun E R => ?_
  refine Wc.seq ?_
  refine Wc.region ?_
  refine Wl.box rfl (by rfl) rfl (fun b1 => ?_)
  refine Wl.nil ?_
  refine Wx.then_code ?_
  refine Wc.seq ?_
  refine Wc.region ?_
  refine Wl.loadO ty75 rfl (by repeat (first | exact .here | apply Has.there)) rfl rfl ?_
  refine Wl.loadOA ty78 rfl (by repeat (first | exact .here | apply Has.there)) rfl rfl ?_
  refine Wl.callK [_] _ rfl rfl rfl (ContainsPair_spec _ F l p h hr (by omega)) rfl ?_
  refine Wl.not rfl rfl ?_
  refine Wl.nil ?_
  refine Wx.then_code ?_
  refine Wc.condS rfl (fun hc1 => ?_) (fun hc1 => ?_)
  refine Wc.region ?_
  refine Wl.loadO ty75 rfl (by repeat (first | exact .here | apply Has.there)) rfl rfl ?_
  refine Wl.loadOA ty78 rfl (by repeat (first | exact .here | apply Has.there)) rfl rfl ?_
  refine Wl.buildSlice sl75 rfl rfl rfl (by repeat (first | rfl | exact .nil | apply Cellss.cons)) rfl rfl rfl (fun b2 => ?_)
  · refine Wl.append [_, _] _ p.enc sl75 rfl rfl rfl hr rfl rfl (srcO rfl .here (fun j u hj => by rw [Nat.zero_add]; simpa [Pair.enc] using hj)) (one_pair p) (by omega) (by omega) fun v' F1 hrow => ?_
    obtain ⟨a2, c2, rfl⟩ := hrow.shape
    refine Wl.storeF ty75 rfl rfl rfl (by repeat (first | exact .here | apply Upd.there)) .here ?_
    refine Wl.nil ?_
    refine Fin.keep (F' := [F1, _]) [_, _] .normal (.inr rfl) (run_none rfl) (Ghost.le.refl _) fun _ _ => ⟨rfl, _, F1, rfl, ?_⟩
    have hn : p ∉ l := by simpa using hc1
    rw [addP, if_neg hn, PairRow, List.length_append, List.flatMap_append]
    simpa using hrow
  refine Wc.skip ?_
  · refine Fin.keep (F' := [F, _]) [_] .normal (.inr rfl) (run_none rfl) (Ghost.le.refl _) fun _ _ => ⟨rfl, _, F, rfl, ?_⟩
    have hn : p ∈ l := by simpa using hc1
    rw [addP, if_pos hn]; exact hr
end Go.Proofs.YtgpmjggdloldnaaGreatDoor

namespace Go.Proofs.YtgpmjggdloldnaaGreatDoor
open Go Go.Sx
set_option maxRecDepth 100000
structure Look where
  atoms : List Atom
  places : List Place
  ranges : Place → Option Ival
def lookS (t : Look) (a : Atom) : Look :=
  if a.kind = 3 then
    { atoms := t.atoms
      places := if (t.ranges ⟨a.name, a.x⟩).isSome then t.places else t.places ++ [⟨a.name, a.x⟩]
      ranges := fput t.ranges ⟨a.name, a.x⟩ (some ⟨max ((t.ranges ⟨a.name, a.x⟩).getD ⟨a.lo, a.hi⟩).lo a.lo, min ((t.ranges ⟨a.name, a.x⟩).getD ⟨a.lo, a.hi⟩).hi a.hi⟩) }
  else { t with atoms := t.atoms ++ [a] }
def lookT (l : List Atom) : Look := l.foldl lookS ⟨[], [], fun _ => none⟩
theorem lookT_succ {l : List Atom} {i : Nat} {a : Atom} (h : l[i]? = some a) : lookT (l.take (i + 1)) = lookS (lookT (l.take i)) a := by
  rw [List.take_add_one, h, lookT, List.foldl_append]; rfl
theorem lookS_le (t : Look) (a : Atom) : (lookS t a).atoms.length ≤ t.atoms.length + 1 ∧ (lookS t a).places.length ≤ t.places.length + 1 := by
  unfold lookS; split
  · refine ⟨Nat.le_succ _, ?_⟩; dsimp only; split <;> simp
  · simp
theorem lookT_le (l : List Atom) : (lookT l).atoms.length ≤ l.length ∧ (lookT l).places.length ≤ l.length := by
  unfold lookT
  have : ∀ (l : List Atom) (t : Look), (l.foldl lookS t).atoms.length ≤ t.atoms.length + l.length ∧ (l.foldl lookS t).places.length ≤ t.places.length + l.length := by
    intro l
    induction l with
    | nil => intro t; simp
    | cons a l ih => intro t; have h1 := ih (lookS t a); have h2 := lookS_le t a; simp only [List.foldl_cons, List.length_cons]; omega
  simpa using this l ⟨[], [], fun _ => none⟩
theorem one_atom (p : Atom) : ∀ u ∈ p.enc, Sx.one u := fun u hu => by
  simp only [Atom.enc, List.mem_cons, List.not_mem_nil, or_false] at hu
  rcases hu with rfl | rfl | rfl | rfl | rfl | rfl <;> rfl
theorem one_place (p : Place) : ∀ u ∈ p.enc, Sx.one u := fun u hu => by
  simp only [Place.enc, List.mem_cons, List.not_mem_nil, or_false] at hu
  rcases hu with rfl | rfl <;> rfl
def placeV (p : Place) : Value := .agg p.enc.toArray
def ivalV (p : Ival) : Value := .agg p.enc.toArray
/-- the target as it lies in memory that stays -/
def Target (h : Ghost) (v : Value) (t : Look) : Prop :=
  ∃ uA uP b, v = .agg #[uA, uP, .map (some b)] ∧ Atoms h uA t.atoms ∧ Sl h (fun x vs => vs = Place.enc x) 2 uP t.places ∧ MpG h b placeV ivalV t.ranges
theorem Target.mono {h h' : Ghost} {v : Value} {t : Look} (H : Target h v t) (hl : h.le h') : Target h' v t := by
  obtain ⟨uA, uP, b, e, h1, h2, h3⟩ := H
  exact ⟨uA, uP, b, e, h1.mono hl, Sl.mono h2 hl fun _ _ _ e => e, h3.mono hl⟩
theorem look_spec (v : Value) (l : List Atom) (h : Ghost) (hv : Atoms h v l) (hl : l.length ≤ 1000000) : SpecP Tryz.prog 33 [v] h fun u h' => Target h' u (lookT l) := by
  obtain ⟨ao, cap, rfl, hcap⟩ := hv.shape
  refine SpecP.enter cl33 Tryz.func33 rfl Tryz.ntmps33 rfl fun E R => ?_
  refine Wc.seq ?_
  refine Wc.region ?_
  refine Wl.alloc ty67 rfl rfl (fun b1 => ?_)
  refine Wl.nil ?_
  refine Wx.then_code ?_
  refine Wc.seq ?_
  refine Wc.region ?_
  refine Wl.makeMap rfl (fun b2 => ?_)
  refine Wl.field fd67_2 rfl rfl ?_
  refine Wl.storeF ty65 rfl rfl rfl (by repeat (first | exact .here | apply Upd.there)) (by repeat (first | exact .here | apply SetL.there)) ?_
  refine Wl.nil ?_
  refine Wx.then_code ?_
  refine Wc.seq ?_
  refine Wc.seq ?_
  refine Wc.region ?_
  refine Wl.move rfl rfl ?_
  refine Wl.slLen Tryz.underlying22 rfl rfl ?_
  refine Wl.move rfl rfl ?_
  refine Wl.nil ?_
  refine Wx.then_code ?_
  refine Wc.block ?_
  refine Wc.addNil (Wc.addNil ?_)
  refine Wc.loop (ι := Nat × (Value × Frag) × (Value × Frag) × Frag) (fun x => x.1 ≤ l.length ∧ Row x.2.1.2 x.2.1.1 37 6 (lookT (l.take x.1)).atoms.length ((lookT (l.take x.1)).atoms.flatMap Atom.enc)
      ∧ Row x.2.2.1.2 x.2.2.1.1 90 2 (lookT (l.take x.1)).places.length ((lookT (l.take x.1)).places.flatMap Place.enc) ∧ Mp x.2.2.2 b2 placeV ivalV (lookT (l.take x.1)).ranges)
    (fun x => [(2, .pointer (some ⟨b1, 0, none⟩)), (10, .slice ao l.length cap), (11, .int .i64 l.length), (12, .int .i64 x.1)]) (fun _ => _)
    (fun x => x.2.1.2 :: x.2.2.1.2 :: x.2.2.2 :: [(b1, cells [x.2.1.1, x.2.2.1.1, .map (some b2)] 67)] :: R) (fun x => l.length - x.1) (0, (.slice none 0 0, []), (.slice none 0 0, []), [(b2, .map #[] 0)])
    ⟨Nat.zero_le _, Row.nil _ _, Row.nil _ _, Mp.empty⟩ (.cons rfl (.cons rfl (.cons rfl (.cons rfl (.nil _))))) rfl rfl fun ⟨i, ⟨uA, FA⟩, ⟨uP, FP⟩, FM⟩ ⟨hi, hA, hP, hM⟩ => ?_
  dsimp only at hi hA hP hM
  obtain ⟨aA, cA, rfl⟩ := hA.shape
  obtain ⟨aP, cP, rfl⟩ := hP.shape
  refine Wc.seq ?_
  refine Wc.region ?_
  refine Wl.iLss rfl rfl rfl ?_
  refine Wl.nil ?_
  refine Wx.then_code ?_
  refine Wc.seq ?_
  refine Wc.condS rfl (fun hc1 => ?_) (fun hc1 => ?_)
  refine Wc.skip ?_
  refine Wx.then_code ?_
  refine Wc.seq ?_
  refine Wc.block ?_
  refine Wc.seq ?_
  refine Wc.region ?_
  have hlt1 : i < l.length := by have := of_decide_eq_true hc1; dsimp only at this; omega
  have hx := List.getElem?_eq_getElem hlt1
  have hstep := lookT_succ hx
  have hle := lookT_le (l.take i)
  have hli : (l.take i).length ≤ i := by rw [List.length_take]; omega
  refine Wl.elemF sl22 rfl hv rfl rfl hx rfl fun b o hseg => ?_
  refine Wl.loadGA ty37 rfl hseg rfl rfl ?_
  refine Wl.alloc ty37 rfl rfl (fun b3 => ?_)
  refine Wl.storeA ty37 rfl rfl (by rfl) (by repeat (first | exact .here | apply Upd.there)) (by rfl) (by rfl) (by rfl) ?_
  refine Wl.nil ?_
  refine Wx.then_code ?_
  refine Wc.seq ?_
  refine Wc.seq ?_
  refine Wc.region ?_
  refine Wl.field fd37_0 rfl rfl ?_
  refine Wl.loadO ty3 rfl (by repeat (first | exact .here | apply Has.there)) rfl rfl ?_
  refine Wl.iNeq rfl rfl rfl ?_
  refine Wl.nil ?_
  refine Wx.then_code ?_
  refine Wc.condS rfl (fun hc2 => ?_) (fun hc2 => ?_)
  refine Wc.seq ?_
  refine Wc.region ?_
  refine Wl.field fd67_0 rfl rfl ?_
  refine Wl.loadO ty22 rfl (by repeat (first | exact .here | apply Has.there)) rfl rfl ?_
  refine Wl.loadOA ty37 rfl (by repeat (first | exact .here | apply Has.there)) rfl rfl ?_
  refine Wl.buildSlice sl22 rfl rfl rfl (by repeat (first | rfl | exact .nil | apply Cellss.cons)) rfl rfl rfl (fun b4 => ?_)
  · have hk : ¬ l[i].kind = 3 := by simpa using hc2
    refine Wl.append [_, _] _ l[i].enc sl22 rfl rfl rfl hA rfl rfl (srcO rfl .here (fun j u hj => by rw [Nat.zero_add]; simpa [Atom.enc] using hj)) (one_atom l[i]) (by omega) (by omega) fun v' F1 hrow => ?_
    obtain ⟨a2, c2, rfl⟩ := hrow.shape
    refine Wl.field fd67_0 rfl rfl ?_
    refine Wl.storeF ty22 rfl rfl rfl (by repeat (first | exact .here | apply Upd.there)) (by repeat (first | exact .here | apply SetL.there)) ?_
    refine Wl.nil ?_
    refine Wx.then_code ?_
    refine Wc.exit ?_
    refine Wx.then_exit ?_
    refine Wx.block_exit ?_
    refine Wx.then_code ?_
    refine Wc.region ?_
    refine Wl.inc rfl rfl (by first | assumption | omega | (have hx := of_decide_eq_true hc2; omega) | (have hx := of_decide_eq_true hc1; omega)) ?_
    refine Wl.move rfl rfl ?_
    refine Wl.nil ?_
    refine Wx.again (i + 1, (_, F1), (_, FP), FM) ⟨hlt1, ?_, ?_, ?_⟩ (by dsimp only; omega) (.cons rfl (.cons rfl (.cons rfl (.cons rfl (.nil _))))) rfl (.skip (.skip .refl))
    · rw [hstep, lookS, if_neg hk]
      simpa using hrow
    · rw [hstep, lookS, if_neg hk]; exact hP
    · rw [hstep, lookS, if_neg hk]; exact hM
  refine Wc.skip ?_
  refine Wx.then_code ?_
  refine Wc.seq ?_
  refine Wc.region ?_
  refine Wl.field fd37_1 rfl rfl ?_
  refine Wl.loadO ty9 rfl (by repeat (first | exact .here | apply Has.there)) rfl rfl ?_
  refine Wl.field fd37_2 rfl rfl ?_
  refine Wl.loadO ty9 rfl (by repeat (first | exact .here | apply Has.there)) rfl rfl ?_
  refine Wl.build bd90 rfl (by repeat (first | rfl | exact .nil | exact .here | apply SetL.there | apply SetLs.cons | apply FillR.cons)) rfl ?_
  refine Wl.alloc ty90 rfl rfl (fun b5 => ?_)
  refine Wl.storeA ty90 rfl rfl (by rfl) (by repeat (first | exact .here | apply Upd.there)) (by rfl) (by rfl) (by rfl) ?_
  refine Wl.nil ?_
  refine Wx.then_code ?_
  refine Wc.seq ?_
  refine Wc.region ?_
  refine Wl.field fd67_2 rfl rfl ?_
  refine Wl.loadO ty65 rfl (by repeat (first | exact .here | apply Has.there)) rfl rfl ?_
  refine Wl.loadOA ty90 rfl (by repeat (first | exact .here | apply Has.there)) rfl rfl ?_
  have hk : l[i].kind = 3 := by simpa using hc2
  refine Wl.lookupOk [_, _, _, _] _ (⟨l[i].name, l[i].x⟩ : Place) Tryz.underlying65 kplace ty92.zero rfl rfl rfl hM rfl ?_
  rw [show (((lookT (l.take i)).ranges ⟨l[i].name, l[i].x⟩).map ivalV).getD (.agg #[.int .i64 0, .int .i64 0]) = ivalV (((lookT (l.take i)).ranges ⟨l[i].name, l[i].x⟩).getD ⟨0, 0⟩) by cases (lookT (l.take i)).ranges ⟨l[i].name, l[i].x⟩ <;> rfl]
  refine Wl.move rfl rfl ?_
  refine Wl.extract rfl rfl rfl ?_
  refine Wl.extract rfl rfl rfl ?_
  refine Wl.alloc ty92 rfl rfl (fun b6 => ?_)
  refine Wl.storeA ty92 rfl rfl (by rfl) (by repeat (first | exact .here | apply Upd.there)) (by rfl) (by rfl) (by rfl) ?_
  refine Wl.assign rfl rfl ?_
  refine Wl.nil ?_
  refine Wx.then_code ?_
  refine Wc.seq ?_
  refine Wc.seq ?_
  refine Wc.region ?_
  refine Wl.move rfl rfl ?_
  refine Wl.not rfl rfl ?_
  refine Wl.nil ?_
  refine Wx.then_code ?_
  refine Wc.condS rfl (fun hc3 => ?_) (fun hc3 => ?_)
  refine Wc.seq ?_
  refine Wc.region ?_
  refine Wl.field fd67_1 rfl rfl ?_
  refine Wl.loadO ty64 rfl (by repeat (first | exact .here | apply Has.there)) rfl rfl ?_
  refine Wl.loadOA ty90 rfl (by repeat (first | exact .here | apply Has.there)) rfl rfl ?_
  refine Wl.buildSlice sl64 rfl rfl rfl (by repeat (first | rfl | exact .nil | apply Cellss.cons)) rfl rfl rfl (fun b7 => ?_)
  · have hR0 : ((lookT (l.take i)).ranges ⟨l[i].name, l[i].x⟩) = none := by simpa using hc3
    refine Wl.append [_, _, _, _, _] _ (Place.enc ⟨l[i].name, l[i].x⟩) sl64 rfl rfl rfl hP rfl rfl (srcO rfl .here (fun j u hj => by rw [Nat.zero_add]; simpa [Place.enc] using hj)) (one_place _) (by omega) (by omega) fun v' F1 hrow => ?_
    obtain ⟨a2, c2, rfl⟩ := hrow.shape
    refine Wl.field fd67_1 rfl rfl ?_
    refine Wl.storeF ty64 rfl rfl rfl (by repeat (first | exact .here | apply Upd.there)) (by repeat (first | exact .here | apply SetL.there)) ?_
    refine Wl.nil ?_
    refine Wx.then_code ?_
    refine Wc.region ?_
    refine Wl.field fd37_4 rfl rfl ?_
    refine Wl.loadO ty3 rfl (by repeat (first | exact .here | apply Has.there)) rfl rfl ?_
    refine Wl.field fd37_5 rfl rfl ?_
    refine Wl.loadO ty3 rfl (by repeat (first | exact .here | apply Has.there)) rfl rfl ?_
    refine Wl.build bd92 rfl (by repeat (first | rfl | exact .nil | exact .here | apply SetL.there | apply SetLs.cons | apply FillR.cons)) rfl ?_
    refine Wl.storeA ty92 rfl rfl (by rfl) (by repeat (first | exact .here | apply Upd.there)) (by rfl) (by rfl) (by rfl) ?_
    refine Wl.nil ?_
    refine Wx.then_code ?_
    refine Wc.region ?_
    refine Wl.field fd67_2 rfl rfl ?_
    refine Wl.loadO ty65 rfl (by repeat (first | exact .here | apply Has.there)) rfl rfl ?_
    refine Wl.loadOA ty90 rfl (by repeat (first | exact .here | apply Has.there)) rfl rfl ?_
    refine Wl.field fd92_0 rfl rfl ?_
    refine Wl.loadO ty3 rfl (by repeat (first | exact .here | apply Has.there)) rfl rfl ?_
    refine Wl.field fd37_4 rfl rfl ?_
    refine Wl.loadO ty3 rfl (by repeat (first | exact .here | apply Has.there)) rfl rfl ?_
    refine Wl.iMax rfl rfl rfl ?_
    refine Wl.field fd92_1 rfl rfl ?_
    refine Wl.loadO ty3 rfl (by repeat (first | exact .here | apply Has.there)) rfl rfl ?_
    refine Wl.field fd37_5 rfl rfl ?_
    refine Wl.loadO ty3 rfl (by repeat (first | exact .here | apply Has.there)) rfl rfl ?_
    refine Wl.iMin rfl rfl rfl ?_
    refine Wl.build bd92 rfl (by repeat (first | rfl | exact .nil | exact .here | apply SetL.there | apply SetLs.cons | apply FillR.cons)) rfl ?_
    refine Wl.mapUpdate [_, _, _, _, _, _] _ (⟨l[i].name, l[i].x⟩ : Place) (⟨max (((lookT (l.take i)).ranges ⟨l[i].name, l[i].x⟩).getD ⟨l[i].lo, l[i].hi⟩).lo l[i].lo, min (((lookT (l.take i)).ranges ⟨l[i].name, l[i].x⟩).getD ⟨l[i].lo, l[i].hi⟩).hi l[i].hi⟩ : Ival) rfl Tryz.underlying65 kplace rfl rfl (by rw [hR0]; rfl) rfl hM fun F2 hM2 => ?_
    refine Wl.nil ?_
    refine Wx.block_normal ?_
    refine Wx.then_code ?_
    refine Wc.region ?_
    refine Wl.inc rfl rfl (by first | assumption | omega | (have hx := of_decide_eq_true hc3; omega) | (have hx := of_decide_eq_true hc2; omega) | (have hx := of_decide_eq_true hc1; omega)) ?_
    refine Wl.move rfl rfl ?_
    refine Wl.nil ?_
    refine Wx.again (i + 1, (_, FA), (_, F1), F2) ⟨hlt1, ?_, ?_, ?_⟩ (by dsimp only; omega) (.cons rfl (.cons rfl (.cons rfl (.cons rfl (.nil _))))) rfl (.skip (.skip (.skip (.skip .refl))))
    · rw [hstep, lookS, if_pos hk]; exact hA
    · rw [hstep, lookS, if_pos hk]
      simpa [hR0] using hrow
    · rw [hstep, lookS, if_pos hk]; exact hM2
  refine Wc.skip ?_
  refine Wx.then_code ?_
  refine Wc.region ?_
  refine Wl.field fd67_2 rfl rfl ?_
  refine Wl.loadO ty65 rfl (by repeat (first | exact .here | apply Has.there)) rfl rfl ?_
  refine Wl.loadOA ty90 rfl (by repeat (first | exact .here | apply Has.there)) rfl rfl ?_
  refine Wl.field fd92_0 rfl rfl ?_
  refine Wl.loadO ty3 rfl (by repeat (first | exact .here | apply Has.there)) rfl rfl ?_
  refine Wl.field fd37_4 rfl rfl ?_
  refine Wl.loadO ty3 rfl (by repeat (first | exact .here | apply Has.there)) rfl rfl ?_
  · have hR1 : ((lookT (l.take i)).ranges ⟨l[i].name, l[i].x⟩).getD ⟨l[i].lo, l[i].hi⟩ = ((lookT (l.take i)).ranges ⟨l[i].name, l[i].x⟩).getD ⟨0, 0⟩ := by
      have : ((lookT (l.take i)).ranges ⟨l[i].name, l[i].x⟩).isSome = true := by simpa using hc3
      obtain ⟨q, hq⟩ := Option.isSome_iff_exists.1 this
      rw [hq]; rfl
    refine Wl.iMax rfl rfl rfl ?_
    refine Wl.field fd92_1 rfl rfl ?_
    refine Wl.loadO ty3 rfl (by repeat (first | exact .here | apply Has.there)) rfl rfl ?_
    refine Wl.field fd37_5 rfl rfl ?_
    refine Wl.loadO ty3 rfl (by repeat (first | exact .here | apply Has.there)) rfl rfl ?_
    refine Wl.iMin rfl rfl rfl ?_
    refine Wl.build bd92 rfl (by repeat (first | rfl | exact .nil | exact .here | apply SetL.there | apply SetLs.cons | apply FillR.cons)) rfl ?_
    refine Wl.mapUpdate [_, _, _, _, _] _ (⟨l[i].name, l[i].x⟩ : Place) (⟨max (((lookT (l.take i)).ranges ⟨l[i].name, l[i].x⟩).getD ⟨l[i].lo, l[i].hi⟩).lo l[i].lo, min (((lookT (l.take i)).ranges ⟨l[i].name, l[i].x⟩).getD ⟨l[i].lo, l[i].hi⟩).hi l[i].hi⟩ : Ival) rfl Tryz.underlying65 kplace rfl rfl (by rw [hR1]; rfl) rfl hM fun F2 hM2 => ?_
    refine Wl.nil ?_
    refine Wx.block_normal ?_
    refine Wx.then_code ?_
    refine Wc.region ?_
    refine Wl.inc rfl rfl (by first | assumption | omega | (have hx := of_decide_eq_true hc3; omega) | (have hx := of_decide_eq_true hc2; omega) | (have hx := of_decide_eq_true hc1; omega)) ?_
    refine Wl.move rfl rfl ?_
    refine Wl.nil ?_
    refine Wx.again (i + 1, (_, FA), (_, FP), F2) ⟨hlt1, ?_, ?_, ?_⟩ (by dsimp only; omega) (.cons rfl (.cons rfl (.cons rfl (.cons rfl (.nil _))))) rfl (.skip (.skip (.skip .refl)))
    · rw [hstep, lookS, if_pos hk]; exact hA
    · rw [hstep, lookS, if_pos hk]
      have : ((lookT (l.take i)).ranges ⟨l[i].name, l[i].x⟩).isSome = true := by simpa using hc3
      simpa [this] using hP
    · rw [hstep, lookS, if_pos hk]; exact hM2
  refine Wc.exit ?_
  refine Wx.then_exit ?_
  refine Wx.then_exit ?_
  refine Wx.block_exit ?_
  refine Wx.then_code ?_
  refine Wc.seq ?_
  refine Wc.region ?_
  refine Wl.loadOA ty67 rfl (by repeat (first | exact .here | apply Has.there)) rfl rfl ?_
  refine Wl.storeA ty67 rfl rfl (by rfl) (by repeat (first | exact .here | apply Upd.there)) (by rfl) (by rfl) (by rfl) ?_
  refine Wl.nil ?_
  refine Wx.then_code ?_
  refine Wc.ret ?_
  have hi' : i = l.length := by have := of_decide_eq_false hc1; dsimp only at this; omega
  subst hi'
  refine Fin.slots (L := [FA, FP, FM, _]) .ret (.inl rfl) (run_cellA rfl ty67 rfl (by repeat (first | exact .here | apply Has.there)) rfl) (Ghost.le.refl _) fun hL _ => ⟨rfl, ?_⟩
  rw [List.take_length] at hA hP hM
  refine ⟨_, _, b2, by rw [List.take_length], Row.sl (fun _ => rfl) hA rfl fun p hp => hL p (by simp [hp]), Row.sl (fun _ => rfl) hP rfl fun p hp => hL p (by simp [hp]), FM, hM, fun p hp => hL p (by simp [hp])⟩
end Go.Proofs.YtgpmjggdloldnaaGreatDoor

namespace Go.Proofs.YtgpmjggdloldnaaGreatDoor
open Go Go.Sx
set_option maxRecDepth 100000
def emp : ByteArray := ⟨#[]⟩
def ivalAt (t : Look) (p : Place) : Ival := (t.ranges p).getD ⟨0, 0⟩
def narrowB (i : Ival) (a : Atom) : Bool := decide (i.hi < i.lo) || (decide (a.lo ≤ i.lo) && decide (i.hi ≤ a.hi))
def placeOk (fits : ByteArray → ByteArray → Bool) (t : Look) (a : Atom) (p : Place) : Bool := (p.feature.toList == a.name.toList && narrowB (ivalAt t p) a) && fits a.x p.term
def stepP (fits : ByteArray → ByteArray → Bool) (t : Look) (a : Atom) (l : List Pair) (p : Place) : List Pair := if placeOk fits t a p then addP l ⟨p.term, emp⟩ else l
def atomNo1 (fits : ByteArray → ByteArray → Bool) (a b : Atom) : Bool := (b.kind != a.kind || !(b.name.toList == a.name.toList)) || !fits a.x b.x
def atomNo2 (fits : ByteArray → ByteArray → Bool) (a b : Atom) : Bool := a.kind == 2 && (!fits a.y b.y || (a.x.toList == a.y.toList && !(b.x.toList == b.y.toList)))
def stepA (fits : ByteArray → ByteArray → Bool) (a : Atom) (l : List Pair) (b : Atom) : List Pair := if atomNo1 fits a b then l else if atomNo2 fits a b then l else addP l ⟨b.x, b.y⟩
def choicesL (fits : ByteArray → ByteArray → Bool) (t : Look) (a : Atom) : List Pair := if a.kind = 3 then t.places.foldl (stepP fits t a) [] else t.atoms.foldl (stepA fits a) []
theorem addP_le (l : List Pair) (p : Pair) : (addP l p).length ≤ l.length + 1 := by unfold addP; split <;> simp
theorem foldP_le (fits : ByteArray → ByteArray → Bool) (t : Look) (a : Atom) : ∀ (l : List Place) (r : List Pair), (l.foldl (stepP fits t a) r).length ≤ r.length + l.length
  | [], r => Nat.le_refl _
  | p :: l, r => by
    have h1 := foldP_le fits t a l (stepP fits t a r p)
    have h2 : (stepP fits t a r p).length ≤ r.length + 1 := by unfold stepP; split; exact addP_le _ _; omega
    simp only [List.foldl_cons, List.length_cons]; omega
theorem foldA_le (fits : ByteArray → ByteArray → Bool) (a : Atom) : ∀ (l : List Atom) (r : List Pair), (l.foldl (stepA fits a) r).length ≤ r.length + l.length
  | [], r => Nat.le_refl _
  | p :: l, r => by
    have h1 := foldA_le fits a l (stepA fits a r p)
    have h2 : (stepA fits a r p).length ≤ r.length + 1 := by unfold stepA; split; omega; split; omega; exact addP_le _ _
    simp only [List.foldl_cons, List.length_cons]; omega
theorem foldl_take_succ {α β : Type} {f : β → α → β} {b : β} {l : List α} {i : Nat} {x : α} (h : l[i]? = some x) : (l.take (i + 1)).foldl f b = f ((l.take i).foldl f b) x := by
  rw [List.take_add_one, h, List.foldl_append]; rfl
def Pairs (h : Ghost) (v : Value) (l : List Pair) : Prop := Sl h (fun x vs => vs = Pair.enc x) 2 v l
theorem Pairs.mono {h h' : Ghost} {v : Value} {l : List Pair} (H : Pairs h v l) (hl : h.le h') : Pairs h' v l := Sl.mono H hl fun _ _ _ e => e
def fitsV (bF bB : Nat) : Value := .func (.func 37) #[] #[.pointer (some ⟨bF, 0, none⟩), .pointer (some ⟨bB, 0, none⟩)]
theorem choices_spec (tv : Value) (t : Look) (a : Atom) (h : Ghost) (told : List ByteArray) (bT bF bB bm : Nat) (c : Caps h told bT bF bB bm) (F : Frag) (f : ByteArray → Option ByteArray) (hF : Mp F bm Value.string Value.string f) (ht : Target h tv t)
    (hn : t.atoms.length < 1000000 ∧ t.places.length < 1000000) :
    Sx.Spec Tryz.prog 39 [tv, .agg a.enc.toArray, fitsV bF bB] h [F] fun u h' F' => F' = [F] ∧ Pairs h' u (choicesL (fitsB told f) t a) := by
  obtain ⟨uA, uP, b, rfl, hA, hP, hM⟩ := ht
  obtain ⟨aA, cA, rfl, hcA⟩ := hA.shape
  obtain ⟨aP, cP, rfl, hcP⟩ := hP.shape
  refine Spec.enter cl39 Tryz.func39 rfl Tryz.ntmps39 rfl fun E R => ?_
  refine Wc.seq ?_
  refine Wc.region ?_
  refine Wl.box rfl (by rfl) rfl (fun b1 => ?_)
  refine Wl.box rfl (by rfl) rfl (fun b2 => ?_)
  refine Wl.alloc ty75 rfl rfl (fun b3 => ?_)
  refine Wl.nil ?_
  refine Wx.then_code ?_
  refine Wc.seq ?_
  refine Wc.region ?_
  refine Wl.makeFunc rfl rfl rfl ?_
  refine Wl.assign rfl rfl ?_
  refine Wl.nil ?_
  refine Wx.then_code ?_
  refine Wc.seq ?_
  refine Wc.seq ?_
  refine Wc.region ?_
  refine Wl.field fd37_0 rfl rfl ?_
  refine Wl.loadO ty3 rfl (by repeat (first | exact .here | apply Has.there)) rfl rfl ?_
  refine Wl.iEql rfl rfl rfl ?_
  refine Wl.nil ?_
  refine Wx.then_code ?_
  refine Wc.condS rfl (fun hc1 => ?_) (fun hc1 => ?_)
  refine Wc.seq ?_
  refine Wc.seq ?_
  refine Wc.region ?_
  refine Wl.field fd67_1 rfl rfl ?_
  refine Wl.loadO ty64 rfl (by repeat (first | exact .here | apply Has.there)) rfl rfl ?_
  refine Wl.slLen Tryz.underlying64 rfl rfl ?_
  refine Wl.move rfl rfl ?_
  refine Wl.nil ?_
  refine Wx.then_code ?_
  refine Wc.block ?_
  · have hk : a.kind = 3 := by simpa using hc1
    have hC : choicesL (fitsB told f) t a = t.places.foldl (stepP (fitsB told f) t a) [] := by rw [choicesL, if_pos hk]
    rw [hC]
    refine Wc.addNil ?_
    refine Wc.loop (ι := Nat × (Value × Frag)) (fun x => x.1 ≤ t.places.length ∧ PairRow x.2.2 x.2.1 ((t.places.take x.1).foldl (stepP (fitsB told f) t a) []))
      (fun x => [(2, fitsV bF bB), (3, .pointer (some ⟨b1, 0, none⟩)), (4, .pointer (some ⟨b2, 0, none⟩)), (6, .pointer (some ⟨b3, 0, none⟩)), (7, .func (.func 58) #[] #[.pointer (some ⟨b3, 0, none⟩)]), (19, .slice aP t.places.length cP), (20, .int .i64 t.places.length), (21, .int .i64 x.1)]) (fun _ => _)
      (fun x => x.2.2 :: [(b3, cells [x.2.1] 75)] :: _) (fun x => t.places.length - x.1) (0, (.slice none 0 0, []))
      ⟨Nat.zero_le _, Row.nil _ _⟩ (.cons rfl (.cons rfl (.cons rfl (.cons rfl (.cons rfl (.cons rfl (.cons rfl (.cons rfl (.nil _))))))))) rfl rfl fun ⟨i, ⟨uR, FR⟩⟩ ⟨hi, hR⟩ => ?_
    dsimp only at hi hR
    have hle := foldP_le (fitsB told f) t a (t.places.take i) []
    rw [List.length_take, List.length_nil, Nat.zero_add] at hle
    have hR' := hR
    obtain ⟨oR, cR, rfl⟩ := Row.shape hR'
    refine Wc.seq ?_
    refine Wc.region ?_
    refine Wl.iLss rfl rfl rfl ?_
    refine Wl.nil ?_
    refine Wx.then_code ?_
    refine Wc.seq ?_
    refine Wc.condS rfl (fun hc2 => ?_) (fun hc2 => ?_)
    refine Wc.skip ?_
    refine Wx.then_code ?_
    refine Wc.seq ?_
    refine Wc.block ?_
    refine Wc.seq ?_
    refine Wc.region ?_
    have hlt1 : i < t.places.length := by have := of_decide_eq_true hc2; dsimp only at this; omega
    have hx := List.getElem?_eq_getElem hlt1
    refine Wl.elemF sl64 rfl hP rfl rfl hx rfl fun b o hseg => ?_
    refine Wl.loadGA ty90 rfl hseg rfl rfl ?_
    refine Wl.alloc ty90 rfl rfl (fun b4 => ?_)
    refine Wl.storeA ty90 rfl rfl (by rfl) (by repeat (first | exact .here | apply Upd.there)) (by rfl) (by rfl) (by rfl) ?_
    refine Wl.nil ?_
    refine Wx.then_code ?_
    refine Wc.seq ?_
    refine Wc.region ?_
    refine Wl.field fd67_2 rfl rfl ?_
    refine Wl.loadO ty65 rfl (by repeat (first | exact .here | apply Has.there)) rfl rfl ?_
    refine Wl.loadOA ty90 rfl (by repeat (first | exact .here | apply Has.there)) rfl rfl ?_
    refine Wl.lookupG t.places[i] Tryz.underlying65 kplace ty92.zero rfl rfl hM rfl ?_
    rw [show ((t.ranges t.places[i]).map ivalV).getD (.agg #[.int .i64 0, .int .i64 0]) = ivalV (ivalAt t t.places[i]) by unfold ivalAt; cases t.ranges t.places[i] <;> rfl]
    refine Wl.alloc ty92 rfl rfl (fun b5 => ?_)
    refine Wl.storeA ty92 rfl rfl (by rfl) (by repeat (first | exact .here | apply Upd.there)) (by rfl) (by rfl) (by rfl) ?_
    refine Wl.nil ?_
    refine Wx.then_code ?_
    refine Wc.seq ?_
    refine Wc.region ?_
    refine Wl.field fd92_0 rfl rfl ?_
    refine Wl.loadO ty3 rfl (by repeat (first | exact .here | apply Has.there)) rfl rfl ?_
    refine Wl.field fd92_1 rfl rfl ?_
    refine Wl.loadO ty3 rfl (by repeat (first | exact .here | apply Has.there)) rfl rfl ?_
    refine Wl.iGtr rfl rfl rfl ?_
    refine Wl.move rfl rfl ?_
    apply Wl.orB (l1 := [_, _, _, _, _, _, _, _, _, _, _, _, _]) (i := 34) (d := 47)
    · rfl
    · intro hg3
      refine Wl.guardNo rfl rfl rfl rfl ?_
      refine Wl.guardNo rfl rfl rfl rfl ?_
      refine Wl.guardNo rfl rfl rfl rfl ?_
      refine Wl.guardNo rfl rfl rfl rfl ?_
      refine Wl.guardNo rfl rfl rfl rfl ?_
      refine Wl.guardNo rfl rfl rfl rfl ?_
      refine Wl.guardUndef rfl rfl rfl ?_
      refine Wl.guardUndef rfl rfl rfl ?_
      refine Wl.guardUndef rfl rfl rfl ?_
      refine Wl.guardUndef rfl rfl rfl ?_
      refine Wl.guardUndef rfl rfl rfl ?_
      refine Wl.guardNo rfl rfl rfl rfl ?_
      refine Wl.pickT rfl rfl rfl ?_
      refine Wl.nil ?_
      exact Wx.reach (.cons rfl (.skip rfl (.skip rfl (.skip rfl (.skip rfl (.skip rfl (.skip rfl (.skip rfl (.skip rfl (.skip rfl (.skip rfl (.skip rfl (.skip rfl (.skip rfl (.same rfl (by rw [hg3]) (.refl _))))))))))))))))
    · intro hg3
      refine Wl.guardYes rfl rfl ?_
      refine Wl.field fd37_4 rfl rfl ?_
      refine Wl.guardYes rfl rfl ?_
      refine Wl.loadO ty3 rfl (by repeat (first | exact .here | apply Has.there)) rfl rfl ?_
      refine Wl.guardYes rfl rfl ?_
      refine Wl.field fd92_0 rfl rfl ?_
      refine Wl.guardYes rfl rfl ?_
      refine Wl.loadO ty3 rfl (by repeat (first | exact .here | apply Has.there)) rfl rfl ?_
      refine Wl.guardYes rfl rfl ?_
      refine Wl.iLeq rfl rfl rfl ?_
      refine Wl.guardYes rfl rfl ?_
      refine Wl.move rfl rfl ?_
      apply Wl.andB (l1 := [_, _, _, _, _, _]) (i := 40) (d := 46)
      · rfl
      · intro hg4
        refine Wl.guardYes rfl rfl ?_
        refine Wl.field fd92_1 rfl rfl ?_
        refine Wl.guardYes rfl rfl ?_
        refine Wl.loadO ty3 rfl (by repeat (first | exact .here | apply Has.there)) rfl rfl ?_
        refine Wl.guardYes rfl rfl ?_
        refine Wl.field fd37_5 rfl rfl ?_
        refine Wl.guardYes rfl rfl ?_
        refine Wl.loadO ty3 rfl (by repeat (first | exact .here | apply Has.there)) rfl rfl ?_
        refine Wl.guardYes rfl rfl ?_
        refine Wl.iLeq rfl rfl rfl ?_
        refine Wl.guardYes rfl rfl ?_
        refine Wl.pickT rfl rfl rfl ?_
        refine Wl.nil ?_
        exact Wx.reach (.cons rfl (.skip rfl (.skip rfl (.skip rfl (.skip rfl (.skip rfl (.skip rfl (.same rfl (by rw [hg4]) (.refl _)))))))))
      · intro hg4
        refine Wl.guardNo rfl rfl rfl rfl ?_
        refine Wl.guardNo rfl rfl rfl rfl ?_
        refine Wl.guardNo rfl rfl rfl rfl ?_
        refine Wl.guardNo rfl rfl rfl rfl ?_
        refine Wl.guardNo rfl rfl rfl rfl ?_
        refine Wl.guardYes rfl rfl ?_
        refine Wl.pickF rfl rfl rfl ?_
        refine Wl.nil ?_
        exact Wx.reach (.cons rfl (.skip rfl (.skip rfl (.skip rfl (.skip rfl (.skip rfl (.skip rfl (.same rfl (by rw [hg4]) (.refl _)))))))))
      refine Wl.pickF rfl rfl rfl ?_
      refine Wl.nil ?_
      exact Wx.reach (.cons rfl (.skip rfl (.skip rfl (.skip rfl (.skip rfl (.skip rfl (.skip rfl (.skip rfl (.skip rfl (.same rfl (by rw [hg3]) (.refl _)))))))))))
    refine Wl.assign rfl rfl ?_
    refine Wl.nil ?_
    refine Wx.then_code ?_
    refine Wc.seq ?_
    refine Wc.region ?_
    refine Wl.field fd90_0 rfl rfl ?_
    refine Wl.loadO ty9 rfl (by repeat (first | exact .here | apply Has.there)) rfl rfl ?_
    refine Wl.field fd37_1 rfl rfl ?_
    refine Wl.loadO ty9 rfl (by repeat (first | exact .here | apply Has.there)) rfl rfl ?_
    refine Wl.sEql rfl rfl rfl ?_
    refine Wl.move rfl rfl ?_
    apply Wl.andB (l1 := [_, _]) (i := 53) (d := 55)
    · rfl
    · intro hg5
      refine Wl.guardYes rfl rfl ?_
      refine Wl.move rfl rfl ?_
      refine Wl.pickT rfl rfl rfl ?_
      refine Wl.nil ?_
      exact Wx.reach (.cons rfl (.skip rfl (.skip rfl (.same rfl (by rw [hg5]) (.refl _)))))
    · intro hg5
      refine Wl.guardNo rfl rfl rfl rfl ?_
      refine Wl.pickF rfl rfl rfl ?_
      refine Wl.nil ?_
      exact Wx.reach (.cons rfl (.skip rfl (.skip rfl (.same rfl (by rw [hg5]) (.refl _)))))
    refine Wl.move rfl rfl ?_
    apply Wl.andB (l1 := [_, _, _, _, _, _, _]) (i := 56) (d := 63)
    · rfl
    · intro hg6
      refine Wl.guardYes rfl rfl ?_
      refine Wl.move rfl rfl ?_
      refine Wl.guardYes rfl rfl ?_
      refine Wl.field fd37_2 rfl rfl ?_
      refine Wl.guardYes rfl rfl ?_
      refine Wl.loadO ty9 rfl (by repeat (first | exact .here | apply Has.there)) rfl rfl ?_
      refine Wl.guardYes rfl rfl ?_
      refine Wl.field fd90_1 rfl rfl ?_
      refine Wl.guardYes rfl rfl ?_
      refine Wl.loadO ty9 rfl (by repeat (first | exact .here | apply Has.there)) rfl rfl ?_
      refine Wl.guardYes rfl rfl ?_
      refine Wl.callK [_, _, _, _, _, _] _ rfl rfl rfl (fits_spec a.x t.places[i].term h told bT bF bB bm c F f hF) rfl ?_
      refine Wl.pickT rfl rfl rfl ?_
      refine Wl.nil ?_
      exact Wx.reach (.cons rfl (.skip rfl (.skip rfl (.skip rfl (.skip rfl (.skip rfl (.skip rfl (.skip rfl (.same rfl (by rw [hg6]) (.refl _))))))))))
    · intro hg6
      refine Wl.guardNo rfl rfl rfl rfl ?_
      refine Wl.guardNo rfl rfl rfl rfl ?_
      refine Wl.guardNo rfl rfl rfl rfl ?_
      refine Wl.guardNo rfl rfl rfl rfl ?_
      refine Wl.guardNo rfl rfl rfl rfl ?_
      refine Wl.guardNo rfl rfl rfl rfl ?_
      refine Wl.pickF rfl rfl rfl ?_
      refine Wl.nil ?_
      exact Wx.reach (.cons rfl (.skip rfl (.skip rfl (.skip rfl (.skip rfl (.skip rfl (.skip rfl (.skip rfl (.same rfl (by rw [hg6]) (.refl _))))))))))
    refine Wl.nil ?_
    refine Wx.then_code ?_
    refine Wc.condS rfl (fun hc7 => ?_) (fun hc7 => ?_)
    refine Wc.region ?_
    refine Wl.move rfl rfl ?_
    refine Wl.field fd90_1 rfl rfl ?_
    refine Wl.loadO ty9 rfl (by repeat (first | exact .here | apply Has.there)) rfl rfl ?_
    refine Wl.build bd78 rfl (by repeat (first | rfl | exact .nil | exact .here | apply SetL.there | apply SetLs.cons | apply FillR.cons)) rfl ?_
    · have hok : placeOk (fitsB told f) t a t.places[i] = true := hc7
      refine Wl.callA [_, _] _ rfl rfl rfl rfl (add_spec _ FR _ ⟨t.places[i].term, emp⟩ h b3 hR (by omega)) rfl fun _ h' F' hl' ⟨_, v', F1, hF', hrow⟩ => ?_
      subst hF'
      refine Wl.weak hl' ?_
      refine Wl.nil ?_
      refine Wx.block_normal ?_
      refine Wx.then_code ?_
      refine Wc.region ?_
      refine Wl.inc rfl rfl (by first | assumption | omega | (have hx := of_decide_eq_true hc7; omega) | (have hx := of_decide_eq_true hc2; omega) | (have hx := of_decide_eq_true hc1; omega)) ?_
      refine Wl.move rfl rfl ?_
      refine Wl.nil ?_
      refine Wx.again (i + 1, (v', F1)) ⟨hlt1, ?_⟩ (by dsimp only; omega) (.cons rfl (.cons rfl (.cons rfl (.cons rfl (.cons rfl (.cons rfl (.cons rfl (.cons rfl (.nil _))))))))) rfl (.skip (.skip .refl))
      dsimp only; rw [foldl_take_succ hx, stepP, if_pos hok]; exact hrow
    refine Wc.skip ?_
    refine Wx.block_normal ?_
    refine Wx.then_code ?_
    refine Wc.region ?_
    refine Wl.inc rfl rfl (by first | assumption | omega | (have hx := of_decide_eq_true hc7; omega) | (have hx := of_decide_eq_true hc2; omega) | (have hx := of_decide_eq_true hc1; omega)) ?_
    refine Wl.move rfl rfl ?_
    refine Wl.nil ?_
    · have hok : placeOk (fitsB told f) t a t.places[i] = false := hc7
      refine Wx.again (i + 1, (_, FR)) ⟨hlt1, ?_⟩ (by dsimp only; omega) (.cons rfl (.cons rfl (.cons rfl (.cons rfl (.cons rfl (.cons rfl (.cons rfl (.cons rfl (.nil _))))))))) rfl (.skip (.skip .refl))
      dsimp only; rw [foldl_take_succ hx, stepP, if_neg (by rw [hok]; simp)]; exact hR
    refine Wc.exit ?_
    refine Wx.then_exit ?_
    refine Wx.then_exit ?_
    refine Wx.block_exit ?_
    refine Wx.then_code ?_
    refine Wc.seq ?_
    refine Wc.region ?_
    refine Wl.loadO ty75 rfl (by repeat (first | exact .here | apply Has.there)) rfl rfl ?_
    refine Wl.storeF ty75 rfl rfl rfl (by repeat (first | exact .here | apply Upd.there)) (by repeat (first | exact .here | apply SetL.there)) ?_
    refine Wl.nil ?_
    refine Wx.then_code ?_
    refine Wc.ret ?_
    refine Wx.then_ret ?_
    have hi' : i = t.places.length := by have := of_decide_eq_false hc2; dsimp only at this; omega
    subst hi'
    refine Fin.keep (F' := [F]) [FR, _, _, _] .ret (.inl rfl) (run_cell1 rfl ty75 rfl (by repeat (first | exact .here | apply Has.there)) rfl) (Ghost.le.refl _) fun hL _ => ⟨rfl, ?_⟩
    have hS := Row.sl (enc := Pair.enc) (fun _ => rfl) hR rfl fun p hp => hL p (by simp [hp])
    rw [List.take_length] at hS ⊢
    exact hS
  refine Wc.skip ?_
  refine Wx.then_code ?_
  refine Wc.seq ?_
  refine Wc.seq ?_
  refine Wc.region ?_
  refine Wl.field fd67_0 rfl rfl ?_
  refine Wl.loadO ty22 rfl (by repeat (first | exact .here | apply Has.there)) rfl rfl ?_
  refine Wl.slLen Tryz.underlying22 rfl rfl ?_
  refine Wl.move rfl rfl ?_
  refine Wl.nil ?_
  refine Wx.then_code ?_
  refine Wc.block ?_
  have hk : ¬ a.kind = 3 := by simpa using hc1
  have hC : choicesL (fitsB told f) t a = t.atoms.foldl (stepA (fitsB told f) a) [] := by rw [choicesL, if_neg hk]
  rw [hC]
  refine Wc.addNil ?_
  refine Wc.loop (ι := Nat × (Value × Frag)) (fun x => x.1 ≤ t.atoms.length ∧ PairRow x.2.2 x.2.1 ((t.atoms.take x.1).foldl (stepA (fitsB told f) a) []))
    (fun x => [(2, fitsV bF bB), (4, .pointer (some ⟨b2, 0, none⟩)), (6, .pointer (some ⟨b3, 0, none⟩)), (7, .func (.func 58) #[] #[.pointer (some ⟨b3, 0, none⟩)]), (72, .slice aA t.atoms.length cA), (73, .int .i64 t.atoms.length), (74, .int .i64 x.1)]) (fun _ => _)
    (fun x => x.2.2 :: [(b3, cells [x.2.1] 75)] :: _) (fun x => t.atoms.length - x.1) (0, (.slice none 0 0, []))
    ⟨Nat.zero_le _, Row.nil _ _⟩ (.cons rfl (.cons rfl (.cons rfl (.cons rfl (.cons rfl (.cons rfl (.cons rfl (.nil _)))))))) rfl rfl fun ⟨i, ⟨uR, FR⟩⟩ ⟨hi, hR⟩ => ?_
  dsimp only at hi hR
  have hle := foldA_le (fitsB told f) a (t.atoms.take i) []
  rw [List.length_take, List.length_nil, Nat.zero_add] at hle
  have hR' := hR
  obtain ⟨oR, cR, rfl⟩ := Row.shape hR'
  refine Wc.seq ?_
  refine Wc.region ?_
  refine Wl.iLss rfl rfl rfl ?_
  refine Wl.nil ?_
  refine Wx.then_code ?_
  refine Wc.seq ?_
  refine Wc.condS rfl (fun hc8 => ?_) (fun hc8 => ?_)
  refine Wc.skip ?_
  refine Wx.then_code ?_
  refine Wc.seq ?_
  refine Wc.block ?_
  refine Wc.seq ?_
  refine Wc.region ?_
  have hlt1 : i < t.atoms.length := by have := of_decide_eq_true hc8; dsimp only at this; omega
  have hx := List.getElem?_eq_getElem hlt1
  refine Wl.elemF sl22 rfl hA rfl rfl hx rfl fun b o hseg => ?_
  refine Wl.loadGA ty37 rfl hseg rfl rfl ?_
  refine Wl.alloc ty37 rfl rfl (fun b6 => ?_)
  refine Wl.storeA ty37 rfl rfl (by rfl) (by repeat (first | exact .here | apply Upd.there)) (by rfl) (by rfl) (by rfl) ?_
  refine Wl.nil ?_
  refine Wx.then_code ?_
  refine Wc.seq ?_
  refine Wc.seq ?_
  refine Wc.region ?_
  refine Wl.field fd37_0 rfl rfl ?_
  refine Wl.loadO ty3 rfl (by repeat (first | exact .here | apply Has.there)) rfl rfl ?_
  refine Wl.field fd37_0 rfl rfl ?_
  refine Wl.loadO ty3 rfl (by repeat (first | exact .here | apply Has.there)) rfl rfl ?_
  refine Wl.iNeq rfl rfl rfl ?_
  refine Wl.move rfl rfl ?_
  apply Wl.orB (l1 := [_, _, _, _, _, _]) (i := 83) (d := 89)
  · rfl
  · intro hg9
    refine Wl.guardNo rfl rfl rfl rfl ?_
    refine Wl.guardNo rfl rfl rfl rfl ?_
    refine Wl.guardNo rfl rfl rfl rfl ?_
    refine Wl.guardNo rfl rfl rfl rfl ?_
    refine Wl.guardNo rfl rfl rfl rfl ?_
    refine Wl.pickT rfl rfl rfl ?_
    refine Wl.nil ?_
    exact Wx.reach (.cons rfl (.skip rfl (.skip rfl (.skip rfl (.skip rfl (.skip rfl (.skip rfl (.same rfl (by rw [hg9]) (.refl _)))))))))
  · intro hg9
    refine Wl.guardYes rfl rfl ?_
    refine Wl.field fd37_1 rfl rfl ?_
    refine Wl.guardYes rfl rfl ?_
    refine Wl.loadO ty9 rfl (by repeat (first | exact .here | apply Has.there)) rfl rfl ?_
    refine Wl.guardYes rfl rfl ?_
    refine Wl.field fd37_1 rfl rfl ?_
    refine Wl.guardYes rfl rfl ?_
    refine Wl.loadO ty9 rfl (by repeat (first | exact .here | apply Has.there)) rfl rfl ?_
    refine Wl.guardYes rfl rfl ?_
    refine Wl.sNeq rfl rfl rfl ?_
    refine Wl.pickF rfl rfl rfl ?_
    refine Wl.nil ?_
    exact Wx.reach (.cons rfl (.skip rfl (.skip rfl (.skip rfl (.skip rfl (.skip rfl (.skip rfl (.same rfl (by rw [hg9]) (.refl _)))))))))
  refine Wl.move rfl rfl ?_
  apply Wl.orB (l1 := [_, _, _, _, _, _, _, _]) (i := 90) (d := 98)
  · rfl
  · intro hg10
    refine Wl.guardNo rfl rfl rfl rfl ?_
    refine Wl.guardNo rfl rfl rfl rfl ?_
    refine Wl.guardNo rfl rfl rfl rfl ?_
    refine Wl.guardNo rfl rfl rfl rfl ?_
    refine Wl.guardNo rfl rfl rfl rfl ?_
    refine Wl.guardNo rfl rfl rfl rfl ?_
    refine Wl.guardNo rfl rfl rfl rfl ?_
    refine Wl.pickT rfl rfl rfl ?_
    refine Wl.nil ?_
    exact Wx.reach (.cons rfl (.skip rfl (.skip rfl (.skip rfl (.skip rfl (.skip rfl (.skip rfl (.skip rfl (.skip rfl (.same rfl (by rw [hg10]) (.refl _)))))))))))
  · intro hg10
    refine Wl.guardYes rfl rfl ?_
    refine Wl.move rfl rfl ?_
    refine Wl.guardYes rfl rfl ?_
    refine Wl.field fd37_2 rfl rfl ?_
    refine Wl.guardYes rfl rfl ?_
    refine Wl.loadO ty9 rfl (by repeat (first | exact .here | apply Has.there)) rfl rfl ?_
    refine Wl.guardYes rfl rfl ?_
    refine Wl.field fd37_2 rfl rfl ?_
    refine Wl.guardYes rfl rfl ?_
    refine Wl.loadO ty9 rfl (by repeat (first | exact .here | apply Has.there)) rfl rfl ?_
    refine Wl.guardYes rfl rfl ?_
    refine Wl.callK [_, _, _, _, _] _ rfl rfl rfl (fits_spec a.x t.atoms[i].x h told bT bF bB bm c F f hF) rfl ?_
    refine Wl.guardYes rfl rfl ?_
    refine Wl.not rfl rfl ?_
    refine Wl.pickF rfl rfl rfl ?_
    refine Wl.nil ?_
    exact Wx.reach (.cons rfl (.skip rfl (.skip rfl (.skip rfl (.skip rfl (.skip rfl (.skip rfl (.skip rfl (.skip rfl (.same rfl (by rw [hg10]) (.refl _)))))))))))
  refine Wl.nil ?_
  refine Wx.then_code ?_
  refine Wc.condS rfl (fun hc11 => ?_) (fun hc11 => ?_)
  refine Wc.exit ?_
  refine Wx.then_exit ?_
  refine Wx.block_exit ?_
  refine Wx.then_code ?_
  refine Wc.region ?_
  refine Wl.inc rfl rfl (by first | assumption | omega | (have hx := of_decide_eq_true hc11; omega) | (have hx := of_decide_eq_true hc8; omega) | (have hx := of_decide_eq_true hc1; omega)) ?_
  refine Wl.move rfl rfl ?_
  refine Wl.nil ?_
  · have hno : atomNo1 (fitsB told f) a t.atoms[i] = true := hc11
    refine Wx.again (i + 1, (_, FR)) ⟨hlt1, ?_⟩ (by dsimp only; omega) (.cons rfl (.cons rfl (.cons rfl (.cons rfl (.cons rfl (.cons rfl (.cons rfl (.nil _)))))))) rfl (.skip .refl)
    dsimp only; rw [foldl_take_succ hx, stepA, if_pos hno]; exact hR
  refine Wc.skip ?_
  refine Wx.then_code ?_
  refine Wc.seq ?_
  refine Wc.seq ?_
  refine Wc.region ?_
  refine Wl.field fd37_0 rfl rfl ?_
  refine Wl.loadO ty3 rfl (by repeat (first | exact .here | apply Has.there)) rfl rfl ?_
  refine Wl.iEql rfl rfl rfl ?_
  refine Wl.move rfl rfl ?_
  apply Wl.andB (l1 := [_, _, _, _, _, _, _, _, _, _, _, _, _, _, _, _, _, _, _, _, _, _]) (i := 102) (d := 124)
  · rfl
  · intro hg12
    refine Wl.guardYes rfl rfl ?_
    refine Wl.move rfl rfl ?_
    refine Wl.guardYes rfl rfl ?_
    refine Wl.field fd37_3 rfl rfl ?_
    refine Wl.guardYes rfl rfl ?_
    refine Wl.loadO ty9 rfl (by repeat (first | exact .here | apply Has.there)) rfl rfl ?_
    refine Wl.guardYes rfl rfl ?_
    refine Wl.field fd37_3 rfl rfl ?_
    refine Wl.guardYes rfl rfl ?_
    refine Wl.loadO ty9 rfl (by repeat (first | exact .here | apply Has.there)) rfl rfl ?_
    refine Wl.guardYes rfl rfl ?_
    refine Wl.callK [_, _, _, _, _] _ rfl rfl rfl (fits_spec a.y t.atoms[i].y h told bT bF bB bm c F f hF) rfl ?_
    refine Wl.guardYes rfl rfl ?_
    refine Wl.not rfl rfl ?_
    refine Wl.guardYes rfl rfl ?_
    refine Wl.move rfl rfl ?_
    apply Wl.orB (l1 := [_, _, _, _, _, _, _, _, _, _, _, _, _]) (i := 110) (d := 123)
    · rfl
    · intro hg13
      refine Wl.guardNo rfl rfl rfl rfl ?_
      refine Wl.guardNo rfl rfl rfl rfl ?_
      refine Wl.guardNo rfl rfl rfl rfl ?_
      refine Wl.guardNo rfl rfl rfl rfl ?_
      refine Wl.guardNo rfl rfl rfl rfl ?_
      refine Wl.guardNo rfl rfl rfl rfl ?_
      refine Wl.guardUndef rfl rfl rfl ?_
      refine Wl.guardUndef rfl rfl rfl ?_
      refine Wl.guardUndef rfl rfl rfl ?_
      refine Wl.guardUndef rfl rfl rfl ?_
      refine Wl.guardUndef rfl rfl rfl ?_
      refine Wl.guardNo rfl rfl rfl rfl ?_
      refine Wl.guardYes rfl rfl ?_
      refine Wl.pickT rfl rfl rfl ?_
      refine Wl.nil ?_
      exact Wx.reach (.cons rfl (.skip rfl (.skip rfl (.skip rfl (.skip rfl (.skip rfl (.skip rfl (.skip rfl (.skip rfl (.skip rfl (.skip rfl (.skip rfl (.skip rfl (.skip rfl (.same rfl (by rw [hg13]) (.refl _))))))))))))))))
    · intro hg13
      refine Wl.guardYes rfl rfl ?_
      refine Wl.field fd37_2 rfl rfl ?_
      refine Wl.guardYes rfl rfl ?_
      refine Wl.loadO ty9 rfl (by repeat (first | exact .here | apply Has.there)) rfl rfl ?_
      refine Wl.guardYes rfl rfl ?_
      refine Wl.field fd37_3 rfl rfl ?_
      refine Wl.guardYes rfl rfl ?_
      refine Wl.loadO ty9 rfl (by repeat (first | exact .here | apply Has.there)) rfl rfl ?_
      refine Wl.guardYes rfl rfl ?_
      refine Wl.sEql rfl rfl rfl ?_
      refine Wl.guardYes rfl rfl ?_
      refine Wl.move rfl rfl ?_
      apply Wl.andB (l1 := [_, _, _, _, _, _]) (i := 116) (d := 122)
      · rfl
      · intro hg14
        refine Wl.guardYes rfl rfl ?_
        refine Wl.field fd37_2 rfl rfl ?_
        refine Wl.guardYes rfl rfl ?_
        refine Wl.loadO ty9 rfl (by repeat (first | exact .here | apply Has.there)) rfl rfl ?_
        refine Wl.guardYes rfl rfl ?_
        refine Wl.field fd37_3 rfl rfl ?_
        refine Wl.guardYes rfl rfl ?_
        refine Wl.loadO ty9 rfl (by repeat (first | exact .here | apply Has.there)) rfl rfl ?_
        refine Wl.guardYes rfl rfl ?_
        refine Wl.sNeq rfl rfl rfl ?_
        refine Wl.guardYes rfl rfl ?_
        refine Wl.pickT rfl rfl rfl ?_
        refine Wl.nil ?_
        exact Wx.reach (.cons rfl (.skip rfl (.skip rfl (.skip rfl (.skip rfl (.skip rfl (.skip rfl (.same rfl (by rw [hg14]) (.refl _)))))))))
      · intro hg14
        refine Wl.guardNo rfl rfl rfl rfl ?_
        refine Wl.guardNo rfl rfl rfl rfl ?_
        refine Wl.guardNo rfl rfl rfl rfl ?_
        refine Wl.guardNo rfl rfl rfl rfl ?_
        refine Wl.guardNo rfl rfl rfl rfl ?_
        refine Wl.guardYes rfl rfl ?_
        refine Wl.pickF rfl rfl rfl ?_
        refine Wl.nil ?_
        exact Wx.reach (.cons rfl (.skip rfl (.skip rfl (.skip rfl (.skip rfl (.skip rfl (.skip rfl (.same rfl (by rw [hg14]) (.refl _)))))))))
      refine Wl.guardYes rfl rfl ?_
      refine Wl.pickF rfl rfl rfl ?_
      refine Wl.nil ?_
      exact Wx.reach (.cons rfl (.skip rfl (.skip rfl (.skip rfl (.skip rfl (.skip rfl (.skip rfl (.skip rfl (.skip rfl (.same rfl (by rw [hg13]) (.refl _)))))))))))
    refine Wl.pickT rfl rfl rfl ?_
    refine Wl.nil ?_
    exact Wx.reach (.cons rfl (.skip rfl (.skip rfl (.skip rfl (.skip rfl (.skip rfl (.skip rfl (.skip rfl (.skip rfl (.skip rfl (.skip rfl (.same rfl (by rw [hg12]) (.refl _)))))))))))))
  · intro hg12
    refine Wl.guardNo rfl rfl rfl rfl ?_
    refine Wl.guardNo rfl rfl rfl rfl ?_
    refine Wl.guardNo rfl rfl rfl rfl ?_
    refine Wl.guardNo rfl rfl rfl rfl ?_
    refine Wl.guardNo rfl rfl rfl rfl ?_
    refine Wl.guardNo rfl rfl rfl rfl ?_
    refine Wl.guardNo rfl rfl rfl rfl ?_
    refine Wl.guardNo rfl rfl rfl rfl ?_
    refine Wl.guardUndef rfl rfl rfl ?_
    refine Wl.guardUndef rfl rfl rfl ?_
    refine Wl.guardUndef rfl rfl rfl ?_
    refine Wl.guardUndef rfl rfl rfl ?_
    refine Wl.guardUndef rfl rfl rfl ?_
    refine Wl.guardUndef rfl rfl rfl ?_
    refine Wl.guardUndef rfl rfl rfl ?_
    refine Wl.guardUndef rfl rfl rfl ?_
    refine Wl.guardUndef rfl rfl rfl ?_
    refine Wl.guardUndef rfl rfl rfl ?_
    refine Wl.guardUndef rfl rfl rfl ?_
    refine Wl.guardUndef rfl rfl rfl ?_
    refine Wl.guardNo rfl rfl rfl rfl ?_
    refine Wl.pickF rfl rfl rfl ?_
    refine Wl.nil ?_
    exact Wx.reach (.cons rfl (.skip rfl (.skip rfl (.skip rfl (.skip rfl (.skip rfl (.skip rfl (.skip rfl (.skip rfl (.skip rfl (.skip rfl (.skip rfl (.skip rfl (.skip rfl (.skip rfl (.skip rfl (.skip rfl (.skip rfl (.skip rfl (.skip rfl (.skip rfl (.skip rfl (.skip rfl (.same rfl (by rw [hg12]) (.refl _)))))))))))))))))))))))))
  refine Wl.nil ?_
  refine Wx.then_code ?_
  refine Wc.condS rfl (fun hc15 => ?_) (fun hc15 => ?_)
  refine Wc.exit ?_
  refine Wx.then_exit ?_
  refine Wx.block_exit ?_
  refine Wx.then_code ?_
  refine Wc.region ?_
  refine Wl.inc rfl rfl (by first | assumption | omega | (have hx := of_decide_eq_true hc15; omega) | (have hx := of_decide_eq_true hc11; omega) | (have hx := of_decide_eq_true hc8; omega) | (have hx := of_decide_eq_true hc1; omega)) ?_
  refine Wl.move rfl rfl ?_
  refine Wl.nil ?_
  · have hno1 : ¬ atomNo1 (fitsB told f) a t.atoms[i] = true := fun e => by rw [show atomNo1 (fitsB told f) a t.atoms[i] = false from hc11] at e; cases e
    have hno : atomNo2 (fitsB told f) a t.atoms[i] = true := hc15
    refine Wx.again (i + 1, (_, FR)) ⟨hlt1, ?_⟩ (by dsimp only; omega) (.cons rfl (.cons rfl (.cons rfl (.cons rfl (.cons rfl (.cons rfl (.cons rfl (.nil _)))))))) rfl (.skip .refl)
    dsimp only; rw [foldl_take_succ hx, stepA, if_neg hno1, if_pos hno]; exact hR
  refine Wc.skip ?_
  refine Wx.then_code ?_
  refine Wc.region ?_
  refine Wl.move rfl rfl ?_
  refine Wl.field fd37_2 rfl rfl ?_
  refine Wl.loadO ty9 rfl (by repeat (first | exact .here | apply Has.there)) rfl rfl ?_
  refine Wl.field fd37_3 rfl rfl ?_
  refine Wl.loadO ty9 rfl (by repeat (first | exact .here | apply Has.there)) rfl rfl ?_
  refine Wl.build bd78 rfl (by repeat (first | rfl | exact .nil | exact .here | apply SetL.there | apply SetLs.cons | apply FillR.cons)) rfl ?_
  have hno1 : ¬ atomNo1 (fitsB told f) a t.atoms[i] = true := fun e => by rw [show atomNo1 (fitsB told f) a t.atoms[i] = false from hc11] at e; cases e
  have hno2 : ¬ atomNo2 (fitsB told f) a t.atoms[i] = true := fun e => by rw [show atomNo2 (fitsB told f) a t.atoms[i] = false from hc15] at e; cases e
  refine Wl.callA [_] _ rfl rfl rfl rfl (add_spec _ FR _ ⟨t.atoms[i].x, t.atoms[i].y⟩ h b3 hR (by omega)) rfl fun _ h' F' hl' ⟨_, v', F1, hF', hrow⟩ => ?_
  subst hF'
  refine Wl.weak hl' ?_
  refine Wl.nil ?_
  refine Wx.block_normal ?_
  refine Wx.then_code ?_
  refine Wc.region ?_
  refine Wl.inc rfl rfl (by first | assumption | omega | (have hx := of_decide_eq_true hc15; omega) | (have hx := of_decide_eq_true hc11; omega) | (have hx := of_decide_eq_true hc8; omega) | (have hx := of_decide_eq_true hc1; omega)) ?_
  refine Wl.move rfl rfl ?_
  refine Wl.nil ?_
  · refine Wx.again (i + 1, (v', F1)) ⟨hlt1, ?_⟩ (by dsimp only; omega) (.cons rfl (.cons rfl (.cons rfl (.cons rfl (.cons rfl (.cons rfl (.cons rfl (.nil _)))))))) rfl (.skip .refl)
    dsimp only; rw [foldl_take_succ hx, stepA, if_neg hno1, if_neg hno2]; exact hrow
  refine Wc.exit ?_
  refine Wx.then_exit ?_
  refine Wx.then_exit ?_
  refine Wx.block_exit ?_
  refine Wx.then_code ?_
  refine Wc.seq ?_
  refine Wc.region ?_
  refine Wl.loadO ty75 rfl (by repeat (first | exact .here | apply Has.there)) rfl rfl ?_
  refine Wl.storeF ty75 rfl rfl rfl (by repeat (first | exact .here | apply Upd.there)) (by repeat (first | exact .here | apply SetL.there)) ?_
  refine Wl.nil ?_
  refine Wx.then_code ?_
  refine Wc.ret ?_
  have hi' : i = t.atoms.length := by have := of_decide_eq_false hc8; dsimp only at this; omega
  subst hi'
  refine Fin.keep (F' := [F]) [FR, _, _, _] .ret (.inl rfl) (run_cell1 rfl ty75 rfl (by repeat (first | exact .here | apply Has.there)) rfl) (Ghost.le.refl _) fun hL _ => ⟨rfl, ?_⟩
  have hS := Row.sl (enc := Pair.enc) (fun _ => rfl) hR rfl fun p hp => hL p (by simp [hp])
  rw [List.take_length] at hS ⊢
  exact hS
end Go.Proofs.YtgpmjggdloldnaaGreatDoor

namespace Go.Proofs.YtgpmjggdloldnaaGreatDoor
open Go Go.Sx
set_option maxRecDepth 100000
def Covers (t : Look) (σ : ByteArray → ByteArray) (a : Atom) : Prop :=
  if a.kind = 3 then ∃ p ∈ t.places, p.feature = a.name ∧ p.term = σ a.x ∧ narrowB (ivalAt t p) a = true
  else ∃ b ∈ t.atoms, b.kind = a.kind ∧ b.name = a.name ∧ b.x = σ a.x ∧ (a.kind = 2 → b.y = σ a.y)
def Solvable (ts : List ByteArray) (t : Look) (f : ByteArray → Option ByteArray) (rest : List Atom) : Prop :=
  ∃ σ : ByteArray → ByteArray, (∀ x u, f x = some u → σ x = u) ∧ (∀ x, hiddenB ts x = false → σ x = x) ∧ ∀ a ∈ rest, Covers t σ a
def stepW (ts : List ByteArray) (st : (ByteArray → Option ByteArray) × List ByteArray) (kv : ByteArray × ByteArray) : (ByteArray → Option ByteArray) × List ByteArray :=
  if (!(st.1 kv.1).isSome) && hiddenB ts kv.1 then (fput st.1 kv.1 (some kv.2), st.2 ++ [kv.1]) else st
def stW (ts : List ByteArray) (f : ByteArray → Option ByteArray) (x : Atom) (p : Pair) (j : Nat) : (ByteArray → Option ByteArray) × List ByteArray :=
  ([(x.x, p.a), (x.y, p.b)].take j).foldl (stepW ts) (f, [])
def delAll (f : ByteArray → Option ByteArray) (l : List ByteArray) : ByteArray → Option ByteArray := l.foldl (fun f s => fput f s none) f

theorem mem_addP {l : List Pair} {p q : Pair} : q ∈ addP l p ↔ q ∈ l ∨ q = p := by
  unfold addP; split
  · rename_i h; exact ⟨.inl, fun e => e.elim id fun e => e ▸ h⟩
  · simp
theorem mem_foldP {fits : ByteArray → ByteArray → Bool} {t : Look} {a : Atom} {p : Pair} : ∀ {l : List Place} {r : List Pair}, p ∈ l.foldl (stepP fits t a) r ↔ p ∈ r ∨ ∃ q ∈ l, placeOk fits t a q = true ∧ p = ⟨q.term, emp⟩
  | [], r => by simp
  | q :: l, r => by
    rw [List.foldl_cons, mem_foldP]
    have : p ∈ stepP fits t a r q ↔ p ∈ r ∨ (placeOk fits t a q = true ∧ p = ⟨q.term, emp⟩) := by
      unfold stepP; split
      · rename_i h; rw [mem_addP]; simp [h]
      · rename_i h; simp [h]
    rw [this]
    simp only [List.mem_cons, exists_eq_or_imp, or_assoc]
theorem mem_foldA {fits : ByteArray → ByteArray → Bool} {a : Atom} {p : Pair} : ∀ {l : List Atom} {r : List Pair}, p ∈ l.foldl (stepA fits a) r ↔ p ∈ r ∨ ∃ q ∈ l, (atomNo1 fits a q = false ∧ atomNo2 fits a q = false) ∧ p = ⟨q.x, q.y⟩
  | [], r => by simp
  | q :: l, r => by
    rw [List.foldl_cons, mem_foldA]
    have : p ∈ stepA fits a r q ↔ p ∈ r ∨ ((atomNo1 fits a q = false ∧ atomNo2 fits a q = false) ∧ p = ⟨q.x, q.y⟩) := by
      unfold stepA; split
      · rename_i h; simp [h]
      · rename_i h
        split
        · rename_i h2; simp [h2]
        · rename_i h2; rw [mem_addP]; simp [h, h2]
    rw [this]
    simp only [List.mem_cons, exists_eq_or_imp, or_assoc]

theorem hidden_emp (ts : List ByteArray) : hiddenB ts emp = false := by
  have : looksB emp = false := by decide
  simp [hiddenB, this]
theorem beq_toList {a b : ByteArray} : (a.toList == b.toList) = true ↔ a = b := by rw [beq_str]; simp

variable {ts : List ByteArray} {t : Look} {f : ByteArray → Option ByteArray}
theorem fits_of {σ : ByteArray → ByteArray} (h1 : ∀ x u, f x = some u → σ x = u) (h2 : ∀ x, hiddenB ts x = false → σ x = x) (s : ByteArray) : fitsB ts f s (σ s) = true := by
  unfold fitsB; split
  · cases hf : f s with
    | none => rfl
    | some u => simp [h1 s u hf]
  · rename_i h; simp [h2 s (by simpa using h)]
/-- what the two bindings do -/
theorem stW_two (x : Atom) (p : Pair) : (stW ts f x p 2) = stepW ts (stepW ts (f, []) (x.x, p.a)) (x.y, p.b) := rfl
theorem stepW_keeps {st : (ByteArray → Option ByteArray) × List ByteArray} {kv : ByteArray × ByteArray} {s u : ByteArray} (h : st.1 s = some u) : (stepW ts st kv).1 s = some u := by
  unfold stepW; split
  · rename_i hc
    simp only [fput]
    rw [if_neg]; exact h
    rintro rfl
    rw [h] at hc; simp at hc
  · exact h
theorem stepW_fits {st : (ByteArray → Option ByteArray) × List ByteArray} {s u : ByteArray} (h : fitsB ts st.1 s u = true) (hh : hiddenB ts s = true) : (stepW ts st (s, u)).1 s = some u := by
  unfold fitsB at h
  rw [if_pos hh] at h
  unfold stepW
  cases hf : st.1 s with
  | none => simp [hh, fput]
  | some v => rw [hf] at h; simp at h; simp [hf, h]
theorem stepW_other {st : (ByteArray → Option ByteArray) × List ByteArray} {kv : ByteArray × ByteArray} {s : ByteArray} (h : kv.1 ≠ s) : (stepW ts st kv).1 s = st.1 s := by
  unfold stepW; split
  · simp [fput, Ne.symm h]
  · rfl
theorem stepW_sub {σ : ByteArray → ByteArray} {st : (ByteArray → Option ByteArray) × List ByteArray} {s : ByteArray} (h1 : ∀ x u, st.1 x = some u → σ x = u) {u : ByteArray} (hu : hiddenB ts s = true → σ s = u) : ∀ x v, (stepW ts st (s, u)).1 x = some v → σ x = v := by
  intro x v hv
  unfold stepW at hv
  split at hv
  · rename_i hc
    simp only [fput] at hv
    split at hv
    · rename_i e; subst e; cases hv; exact hu (by simp at hc; exact hc.2)
    · exact h1 x v hv
  · exact h1 x v hv

theorem solvable_step {rest : List Atom} {i : Nat} {x : Atom} (hx : rest[i]? = some x) (hok : x.kind = 2 ∨ x.y = emp) :
    Solvable ts t f rest ↔ ∃ p ∈ choicesL (fitsB ts f) t x, Solvable ts t (stW ts f x p 2).1 (rest.eraseIdx i) := by
  have hmem : ∀ a, a ∈ rest ↔ a = x ∨ a ∈ rest.eraseIdx i := fun a => by
    constructor
    · intro ha
      obtain ⟨j, hj⟩ := List.mem_iff_getElem?.1 ha
      by_cases e : j = i
      · subst e; rw [hx] at hj; cases hj; exact .inl rfl
      · exact .inr (List.mem_eraseIdx_iff_getElem?.2 ⟨j, e, hj⟩)
    · rintro (rfl | h)
      · exact List.mem_of_getElem? hx
      · exact List.mem_of_mem_eraseIdx h
  constructor
  · rintro ⟨σ, h1, h2, h3⟩
    have hc := h3 x ((hmem x).2 (.inl rfl))
    have he : σ emp = emp := h2 _ (hidden_emp ts)
    unfold Covers at hc
    by_cases hk : x.kind = 3
    · rw [if_pos hk] at hc
      obtain ⟨q, hq, e1, e2, e3⟩ := hc
      have hy : x.y = emp := hok.resolve_left (by omega)
      refine ⟨⟨q.term, emp⟩, ?_, σ, ?_, h2, fun a ha => h3 a ((hmem a).2 (.inr ha))⟩
      · rw [choicesL, if_pos hk, mem_foldP]
        refine .inr ⟨q, hq, ?_, rfl⟩
        rw [placeOk, e2, fits_of h1 h2, e1, e3]; simp
      · rw [stW_two]
        refine stepW_sub (stepW_sub h1 fun _ => e2.symm) fun hh => ?_
        rw [hy, hidden_emp] at hh; cases hh
    · rw [if_neg hk] at hc
      obtain ⟨b, hb, e1, e2, e3, e4⟩ := hc
      refine ⟨⟨b.x, b.y⟩, ?_, σ, ?_, h2, fun a ha => h3 a ((hmem a).2 (.inr ha))⟩
      · rw [choicesL, if_neg hk, mem_foldA]
        refine .inr ⟨b, hb, ⟨?_, ?_⟩, rfl⟩
        · rw [atomNo1, e1, e2, e3, fits_of h1 h2]; simp
        · rw [atomNo2]
          by_cases hk2 : x.kind = 2
          · rw [e4 hk2, fits_of h1 h2, e3]
            by_cases e : x.x = x.y
            · rw [e]; simp
            · have : (x.x.toList == x.y.toList) = false := Bool.eq_false_iff.2 fun h => e (beq_toList.1 h)
              rw [this]; simp
          · have : (x.kind == 2) = false := by simpa using hk2
            rw [this]; rfl
      · rw [stW_two]
        refine stepW_sub (stepW_sub h1 fun _ => e3.symm) fun hh => ?_
        rcases hok with hk2 | hy
        · exact (e4 hk2).symm
        · rw [hy, hidden_emp] at hh; cases hh
  · rintro ⟨p, hp, σ, h1, h2, h3⟩
    have hsub : ∀ s u, f s = some u → σ s = u := fun s u h => h1 s u (by rw [stW_two]; exact stepW_keeps (stepW_keeps h))
    refine ⟨σ, hsub, h2, fun a ha => ?_⟩
    refine ((hmem a).1 ha).elim (fun e => ?_) (fun h => h3 a h)
    subst e
    have first : fitsB ts f a.x p.a = true → σ a.x = p.a := fun hf => by
      by_cases hh : hiddenB ts a.x = true
      · refine h1 _ _ ?_
        rw [stW_two]; exact stepW_keeps (stepW_fits hf hh)
      · have hh' : hiddenB ts a.x = false := by simpa using hh
        rw [h2 _ hh']
        unfold fitsB at hf; rw [if_neg hh] at hf; simpa using hf
    unfold Covers
    by_cases hk : a.kind = 3
    · rw [if_pos hk]
      rw [choicesL, if_pos hk, mem_foldP] at hp
      rcases hp with hp | ⟨q, hq, hok2, rfl⟩
      · cases hp
      unfold placeOk at hok2
      simp only [Bool.and_eq_true] at hok2
      exact ⟨q, hq, beq_toList.1 hok2.1.1, (first hok2.2).symm, hok2.1.2⟩
    · rw [if_neg hk]
      rw [choicesL, if_neg hk, mem_foldA] at hp
      rcases hp with hp | ⟨b, hb, ⟨hn1, hn2⟩, rfl⟩
      · cases hp
      unfold atomNo1 at hn1
      simp only [Bool.or_eq_false_iff, Bool.not_eq_false', bne_eq_false_iff_eq] at hn1
      obtain ⟨⟨k1, k2⟩, k3⟩ := hn1
      refine ⟨b, hb, k1, beq_toList.1 k2, (first k3).symm, fun hk2 => ?_⟩
      have : (a.kind == 2) = true := by simpa using hk2
      rw [atomNo2, this, Bool.true_and, Bool.or_eq_false_iff] at hn2
      obtain ⟨k4, k5⟩ := hn2
      have k4 : fitsB ts f a.y b.y = true := by simpa using k4
      symm
      by_cases hh : hiddenB ts a.y = true
      · refine h1 _ _ ?_
        rw [stW_two]
        by_cases e : a.x = a.y
        · have hxy : b.x = b.y := by
            have ex : (a.x.toList == a.y.toList) = true := beq_toList.2 e
            rw [ex, Bool.true_and] at k5
            exact beq_toList.1 (by simpa using k5)
          rw [← e] at hh ⊢
          refine stepW_keeps ?_
          rw [← hxy]; exact stepW_fits k3 hh
        · refine stepW_fits ?_ hh
          unfold fitsB at k4 ⊢
          rw [if_pos hh] at k4 ⊢
          rw [stepW_other e]; exact k4
      · have hh' : hiddenB ts a.y = false := by simpa using hh
        rw [h2 _ hh']
        unfold fitsB at k4; rw [if_neg hh] at k4; simpa using k4

/-- what is bound is hidden -/
def Hid (ts : List ByteArray) (f : ByteArray → Option ByteArray) : Prop := ∀ s u, f s = some u → hiddenB ts s = true
theorem solvable_nil (h : Hid ts f) : Solvable ts t f [] :=
  ⟨fun s => (f s).getD s, fun x u e => by simp [e], fun x hx => by
    cases e : f x with
    | none => simp [e]
    | some u => (rw [h x u e] at hx; cases hx), fun a ha => by cases ha⟩
theorem Hid.step {st : (ByteArray → Option ByteArray) × List ByteArray} (h : Hid ts st.1) (kv : ByteArray × ByteArray) : Hid ts (stepW ts st kv).1 := fun s u e => by
  unfold stepW at e
  split at e
  · rename_i hc
    simp only [fput] at e
    split at e
    · rename_i es; subst es; simp only [Bool.and_eq_true] at hc; exact hc.2
    · exact h s u e
  · exact h s u e
theorem Hid.two (h : Hid ts f) (x : Atom) (p : Pair) : Hid ts (stW ts f x p 2).1 := by
  rw [stW_two]; exact Hid.step (Hid.step h _) _
theorem stW_succ {f : ByteArray → Option ByteArray} {x : Atom} {p : Pair} {j : Nat} {kv : ByteArray × ByteArray} (h : [(x.x, p.a), (x.y, p.b)][j]? = some kv) : stW ts f x p (j + 1) = stepW ts (stW ts f x p j) kv := by
  unfold stW; rw [foldl_take_succ h]
theorem stW_le (x : Atom) (p : Pair) (j : Nat) : (stW ts f x p j).2.length ≤ j := by
  unfold stW
  have : ∀ (l : List (ByteArray × ByteArray)) (st : (ByteArray → Option ByteArray) × List ByteArray), (l.foldl (stepW ts) st).2.length ≤ st.2.length + l.length := by
    intro l
    induction l with
    | nil => intro st; simp
    | cons kv l ih =>
      intro st
      have h1 := ih (stepW ts st kv)
      have h2 : (stepW ts st kv).2.length ≤ st.2.length + 1 := by unfold stepW; split <;> simp
      simp only [List.foldl_cons, List.length_cons]; omega
  have h := this ([(x.x, p.a), (x.y, p.b)].take j) (f, [])
  rw [List.length_take] at h
  simp only [List.length_nil, Nat.zero_add] at h
  omega
theorem delAll_succ {l : List ByteArray} {j : Nat} {s : ByteArray} (h : l[j]? = some s) : delAll f (l.take (j + 1)) = fput (delAll f (l.take j)) s none := by
  unfold delAll; rw [foldl_take_succ h]
/-- taking back what was bound -/
theorem delAll_two (x : Atom) (p : Pair) : delAll (stW ts f x p 2).1 (stW ts f x p 2).2 = f := by
  rw [stW_two]
  unfold delAll stepW
  by_cases h1 : ((!(f x.x).isSome) && hiddenB ts x.x) = true
  · simp only [h1, if_true]
    simp only [Bool.and_eq_true, Bool.not_eq_true', Option.isSome_eq_false_iff, Option.isNone_iff_eq_none] at h1
    split
    · rename_i h2
      simp only [Bool.and_eq_true, Bool.not_eq_true', Option.isSome_eq_false_iff, Option.isNone_iff_eq_none] at h2
      funext z
      simp only [List.nil_append, List.cons_append, List.foldl_cons, List.foldl_nil, fput]
      simp only [fput] at h2
      by_cases e1 : z = x.y
      · subst e1
        rw [if_pos rfl]
        have := h2.1
        split at this
        · cases this
        · exact this.symm
      · rw [if_neg e1]
        by_cases e2 : z = x.x
        · subst e2; rw [if_pos rfl]; exact h1.1.symm
        · rw [if_neg e2, if_neg e1, if_neg e2]
    · funext z
      simp only [List.nil_append, List.foldl_cons, List.foldl_nil, fput]
      by_cases e2 : z = x.x
      · subst e2; rw [if_pos rfl]; exact h1.1.symm
      · rw [if_neg e2, if_neg e2]
  · simp only [h1, if_false, Bool.false_eq_true]
    split
    · rename_i h2
      simp only [Bool.and_eq_true, Bool.not_eq_true', Option.isSome_eq_false_iff, Option.isNone_iff_eq_none] at h2
      funext z
      simp only [List.nil_append, List.foldl_cons, List.foldl_nil, fput]
      by_cases e1 : z = x.y
      · subst e1; rw [if_pos rfl]; exact h2.1.symm
      · rw [if_neg e1, if_neg e1]
    · rfl
end Go.Proofs.YtgpmjggdloldnaaGreatDoor
