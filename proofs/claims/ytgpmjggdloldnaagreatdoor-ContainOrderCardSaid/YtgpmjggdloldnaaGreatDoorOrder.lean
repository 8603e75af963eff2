/-
  Contracts and plain lemmas, joined: T39
-/
import Derived.Test.YtgpmjggdloldnaaGreatDoorOpens
namespace Go.Proofs.YtgpmjggdloldnaaGreatDoor
open Go Go.Sx Go.ChangeShapes Go.WideShapes Go.RowKit
set_option maxRecDepth 100000
theorem order_met (os : Os) (args : Array Value) : laidMetH Tryz.prog Rows.containOrderRow.laid ((World.doorLaid Tryz.prog 400 os).forCall (fun _ _ => 0) ⟨#[], args, []⟩).memory :=
  laidMetH_of_parts3 (fuel := 8) (laidMet_of_run' 8 (by kernel_rfl) (by kernel_rfl)) (by kernel_rfl) (by kernel_rfl)
theorem order_lifted (os : Os) (started : os.Started) (H : Type) (enc : TypeId × Value → H) :
    ReturnsInHanded {} Tryz.checked os 3 .any (fun w args => (Rows.containOrderSpec.pre enc Tryz.prog Tryz.f3 [] false w args ∧ laidMetH Tryz.prog Rows.containOrderRow.laid w) ∧ sizedMet enc Tryz.prog Tryz.f3 (OpenSpec.ofChange Rows.containOrderSpec) false w args)
      (Rows.containOrderSpec.post enc Tryz.prog Tryz.f3 false true false false) := by
  refine returns_true (C := Tryz.checked) (X := fun w _ => laidMetH Tryz.prog Rows.containOrderRow.laid w) (fun _ _ _ hh h => h.of_heap hh) own started (by kernel_rfl) Tryz.func3 laidOut ?_ rfl ?_ rfl Tryz.underlying4
    (ChangeSpec.witness_shaped (enc := enc) (C := Tryz.checked) (os := os) (X := fun w _ => laidMetH Tryz.prog Rows.containOrderRow.laid w) false (World.doorLaid Tryz.prog 400 os) #[.agg #[.slice none 0 0], .agg #[.slice none 0 0], .agg #[.slice none 0 0], .slice none 0 0] 8 rfl (World.shaped_of_RefB (by kernel_rfl) (by kernel_rfl)) (by kernel_rfl) (by kernel_rfl) (by kernel_rfl) (order_met os _)) ?_
  · intro t ht
    have hm : t ∈ [24, 25] := by
      have : Tryz.f3.params.toList = [24, 24, 24, 25] := rfl
      rw [this] at ht
      simpa using ht
    have hall : ([24, 25].all fun u => Tryz.prog.readableRec u && decide (u < Tryz.prog.types.size)) = true := by kernel_rfl
    have := List.all_eq_true.1 hall t hm
    rw [Bool.and_eq_true, decide_eq_true_eq] at this
    exact this
  · intro ds h
    have h : ds.length = 4 := h
    match ds, h with
    | [d1, d2, d3, d4], _ => rfl
  intro W base args ds p hval0 hA0 hsh _
  have hval : ∀ (j : Nat) t v, Tryz.f3.params[j]? = some t → args[j]? = some v → Value.okWide Tryz.prog W .any base t v := hval0
  have hA : DataW.TrodAll enc Tryz.prog W 0 (fun _ => true) true Tryz.f3.params.toList args.toList ds p := hA0
  rw [Tryz.params3] at hA hval
  obtain ⟨v0, v1, v2, v3, d0, d1, d2, d3, p0, p1, p2, p3, rfl, rfl, rfl, h0, h1, h2, h3⟩ := trodAll_four hA
  obtain ⟨av, a, rfl, ha⟩ := arg_part (hval 0 _ _ rfl rfl) h0
  obtain ⟨bv, b, rfl, hb⟩ := arg_part (hval 1 _ _ rfl rfl) h1
  obtain ⟨cv, c, rfl, hc⟩ := arg_part (hval 2 _ _ rfl rfl) h2
  obtain ⟨ts, ht⟩ := arg_strs (hval 3 _ _ rfl rfl) h3
  exact ContainOrder_spec av bv cv _ a b c ts _ ha hb hc ht (Gl.of hsh)
theorem containOrder_holds : Rows.ContainOrderSaid :=
  OpenClaim.holds_of_wide 3 Tryz.f3 rfl rfl rfl rfl rfl rfl rfl ⟨rfl, rfl, rfl, rfl, rfl⟩ rfl rfl rfl rfl rfl (by kernel_rfl) Tryz.func3 (by kernel_rfl)
    (of_decide_eq_true (by kernel_rfl)) (by unfold Func.isWrapper; rw [if_neg (of_decide_eq_false (by kernel_rfl))]; exact ⟨rfl, rfl⟩)
    (fun os started H enc _ => order_lifted os started H enc)
theorem containOrder_card_holds : Rows.ContainOrderCardSaid :=
  Claim7.holds_tied_plain_at .later [] [.data, .data] true (true, "9a82f3a611ed0a1213139dee8b7e1451ac6efca37e742eac80cb11acdb2ee53f") false
    containOrder_holds (fun _ h => by cases h) (by kernel_rfl) (fun _ h => by cases h) containOrder_row_tie rfl ⟨rfl, rfl⟩ (by kernel_rfl) rfl
    (fun f fn hf hfn => by
      obtain rfl : f = 3 := Option.some.inj ((show Tryz.prog.funcNamed "veilstone/veilstonelaw26.ContainOrder" = some 3 by kernel_rfl).symm.trans hf) |>.symm
      obtain rfl : fn = Tryz.f3 := (Option.some.inj (Tryz.func3.symm.trans hfn)).symm
      exact ⟨by kernel_rfl, fun j t ht => by
        rw [Tryz.params3] at ht
        have hm : t ∈ [24, 24, 24, 25] := by simpa using Array.mem_of_getElem? ht
        have hall : ([24, 24, 24, 25].all fun u => !Tryz.prog.wantsStandIn u) = true := by kernel_rfl
        exact (show Tryz.prog.wantsStandIn t = false by simpa using List.all_eq_true.1 hall t hm)⟩)
    (by kernel_rfl)
#print axioms containOrder_card_holds
end Go.Proofs.YtgpmjggdloldnaaGreatDoor
