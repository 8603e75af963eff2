/-
  Contracts and plain lemmas, joined: T40
-/
import Derived.Test.YtgpmjggdloldnaaGreatDoorOpens
namespace Go.Proofs.YtgpmjggdloldnaaGreatDoor
open Go Go.Sx Go.ChangeShapes Go.WideShapes Go.RowKit
set_option maxRecDepth 100000
theorem core_met (os : Os) (args : Array Value) : laidMetH Tryz.prog Rows.containCoreRow.laid ((World.doorLaid Tryz.prog 400 os).forCall (fun _ _ => 0) ⟨#[], args, []⟩).memory :=
  laidMetH_of_parts3 (fuel := 8) (laidMet_of_run' 8 (by kernel_rfl) (by kernel_rfl)) (by kernel_rfl) (by kernel_rfl)
theorem core_lifted (os : Os) (started : os.Started) (H : Type) (enc : TypeId × Value → H) :
    ReturnsInHanded {} Tryz.checked os 4 .any (fun w args => (Rows.containCoreSpec.pre enc Tryz.prog Tryz.f4 [] false w args ∧ laidMetH Tryz.prog Rows.containCoreRow.laid w) ∧ sizedMet enc Tryz.prog Tryz.f4 (OpenSpec.ofChange Rows.containCoreSpec) false w args)
      (Rows.containCoreSpec.post enc Tryz.prog Tryz.f4 false true false false) := by
  refine returns_true (C := Tryz.checked) (X := fun w _ => laidMetH Tryz.prog Rows.containCoreRow.laid w) (fun _ _ _ hh h => h.of_heap hh) own started (by kernel_rfl) Tryz.func4 laidOut ?_ rfl ?_ rfl Tryz.underlying4
    (ChangeSpec.witness_shaped (enc := enc) (C := Tryz.checked) (os := os) (X := fun w _ => laidMetH Tryz.prog Rows.containCoreRow.laid w) false (World.doorLaid Tryz.prog 400 os) #[.agg #[.slice none 0 0], .slice none 0 0] 8 rfl (World.shaped_of_RefB (by kernel_rfl) (by kernel_rfl)) (by kernel_rfl) (by kernel_rfl) (by kernel_rfl) (core_met os _)) ?_
  · intro t ht
    have hm : t ∈ [24, 25] := by
      have : Tryz.f4.params.toList = [24, 25] := rfl
      rw [this] at ht
      simpa using ht
    have hall : ([24, 25].all fun u => Tryz.prog.readableRec u && decide (u < Tryz.prog.types.size)) = true := by kernel_rfl
    have := List.all_eq_true.1 hall t hm
    rw [Bool.and_eq_true, decide_eq_true_eq] at this
    exact this
  · intro ds h
    have h : ds.length = 2 := h
    match ds, h with
    | [d1, d2], _ => rfl
  intro W base args ds p hval0 hA0 hsh _
  have hval : ∀ (j : Nat) t v, Tryz.f4.params[j]? = some t → args[j]? = some v → Value.okWide Tryz.prog W .any base t v := hval0
  have hA : DataW.TrodAll enc Tryz.prog W 0 (fun _ => true) true Tryz.f4.params.toList args.toList ds p := hA0
  rw [Tryz.params4] at hA hval
  obtain ⟨v0, v1, d0, d1, p0, p1, rfl, rfl, rfl, h0, h1⟩ := trodAll_two hA
  obtain ⟨av, a, rfl, ha⟩ := arg_part (hval 0 _ _ rfl rfl) h0
  obtain ⟨ts, ht⟩ := arg_strs (hval 1 _ _ rfl rfl) h1
  exact ContainCore_spec av _ a ts _ ha ht (Gl.of hsh)
theorem containCore_holds : Rows.ContainCoreSaid :=
  OpenClaim.holds_of_wide 4 Tryz.f4 rfl rfl rfl rfl rfl rfl rfl ⟨rfl, rfl, rfl, rfl, rfl⟩ rfl rfl rfl rfl rfl (by kernel_rfl) Tryz.func4 (by kernel_rfl)
    (of_decide_eq_true (by kernel_rfl)) (by unfold Func.isWrapper; rw [if_neg (of_decide_eq_false (by kernel_rfl))]; exact ⟨rfl, rfl⟩)
    (fun os started H enc _ => core_lifted os started H enc)
theorem containCore_card_holds : Rows.ContainCoreCardSaid :=
  Claim7.holds_tied_plain_at .later [] [.data, .data] true (true, "9a82f3a611ed0a1213139dee8b7e1451ac6efca37e742eac80cb11acdb2ee53f") false
    containCore_holds (fun _ h => by cases h) (by kernel_rfl) (fun _ h => by cases h) containCore_row_tie rfl ⟨rfl, rfl⟩ (by kernel_rfl) rfl
    (fun f fn hf hfn => by
      obtain rfl : f = 4 := Option.some.inj ((show Tryz.prog.funcNamed "veilstone/veilstonelaw26.ContainCore" = some 4 by kernel_rfl).symm.trans hf) |>.symm
      obtain rfl : fn = Tryz.f4 := (Option.some.inj (Tryz.func4.symm.trans hfn)).symm
      exact ⟨by kernel_rfl, fun j t ht => by
        rw [Tryz.params4] at ht
        have hm : t ∈ [24, 25] := by simpa using Array.mem_of_getElem? ht
        have hall : ([24, 25].all fun u => !Tryz.prog.wantsStandIn u) = true := by kernel_rfl
        exact (show Tryz.prog.wantsStandIn t = false by simpa using List.all_eq_true.1 hall t hm)⟩)
    (by kernel_rfl)
#print axioms containCore_card_holds
end Go.Proofs.YtgpmjggdloldnaaGreatDoor
