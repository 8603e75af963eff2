/-
  Contracts and plain lemmas, joined: T45
-/
import Derived.Test.YtgpmjggdloldnaaGreatDoorPartF
namespace Go.Proofs.YtgpmjggdloldnaaGreatDoor
open Go Go.Sx Go.ChangeShapes Go.WideShapes Go.RowKit
set_option maxRecDepth 100000
theorem opParts : Opens Tryz.prog 39 1 fun h (l : List (List Atom)) cs => ∃ v, cs = [v] ∧ Parts h v l :=
  (Opens.slice (by kernel_rfl) Tryz.underlying39 opPart (by decide)).map id fun _ _ _ ⟨v, e, hs, _⟩ => ⟨v, e, hs.mono (Ghost.le.refl _) fun _ _ _ ⟨u, e, r⟩ => ⟨u, e, r⟩⟩
theorem opQuery : Opens Tryz.prog 41 2 fun h (q : List ByteArray × List (List Atom)) cs => ∃ tv pv, cs = [tv, pv] ∧ Strs h tv q.1 ∧ Parts h pv q.2 := by
  refine Opens.map (fun (x : List ByteArray × List (List Atom) × Unit) => (x.1, x.2.1)) (Opens.struct (by kernel_rfl) Tryz.underlying41 (.cons rfl rfl opStrs (.cons rfl rfl opParts .nil))) ?_
  rintro h ⟨ts, l, _⟩ cs ⟨_, _, rfl, _, ⟨tv, rfl, ht⟩, _, _, rfl, _, ⟨pv, rfl, hp⟩, rfl⟩
  exact ⟨tv, pv, rfl, ht, hp⟩
theorem arg_query {H : Type} {enc : TypeId × Value → H} {w : World} {base b0 : Nat} {spare : Nat → Bool} {held : Bool} {r : Reach} {v : Value} {d : DataW H} {p : List MemPlace} (hval : Value.okWide Tryz.prog w r b0 41 v) (h : DataW.Trod enc Tryz.prog w base spare held 41 v d p) :
    ∃ tv pv ts l, v = .agg #[tv, pv] ∧ Strs (Ghost.of w) tv ts ∧ Parts (Ghost.of w) pv l := by
  obtain ⟨cs, rfl, _⟩ := okWide_struct Tryz.underlying41 hval
  obtain ⟨⟨ts, l⟩, tv, pv, e, ht, hp⟩ := opQuery.arg h
  refine ⟨tv, pv, ts, l, ?_, ht, hp⟩
  have e : cs.toList = [tv, pv] := e
  congr 1
  exact Array.toList_inj.1 (by rw [e])
theorem shrink_met (os : Os) (args : Array Value) : laidMetH Tryz.prog Rows.containShrinkRow.laid ((World.doorLaid Tryz.prog 400 os).forCall (fun _ _ => 0) ⟨#[], args, []⟩).memory :=
  laidMetH_of_parts3 (fuel := 8) (laidMet_of_run' 8 (by kernel_rfl) (by kernel_rfl)) (by kernel_rfl) (by kernel_rfl)
theorem shrink_lifted (os : Os) (started : os.Started) (H : Type) (enc : TypeId × Value → H) :
    ReturnsInHanded {} Tryz.checked os 5 .any (fun w args => (Rows.containShrinkSpec.pre enc Tryz.prog Tryz.f5 [] false w args ∧ laidMetH Tryz.prog Rows.containShrinkRow.laid w) ∧ sizedMet enc Tryz.prog Tryz.f5 (OpenSpec.ofChange Rows.containShrinkSpec) false w args)
      (Rows.containShrinkSpec.post enc Tryz.prog Tryz.f5 false true false false) := by
  refine returns_true (C := Tryz.checked) (X := fun w _ => laidMetH Tryz.prog Rows.containShrinkRow.laid w) (fun _ _ _ hh h => h.of_heap hh) own started (by kernel_rfl) Tryz.func5 laidOut ?_ rfl ?_ rfl Tryz.underlying4
    (ChangeSpec.witness_shaped (enc := enc) (C := Tryz.checked) (os := os) (X := fun w _ => laidMetH Tryz.prog Rows.containShrinkRow.laid w) false (World.doorLaid Tryz.prog 400 os) #[.agg #[.slice none 0 0, .slice none 0 0]] 8 rfl (World.shaped_of_RefB (by kernel_rfl) (by kernel_rfl)) (by kernel_rfl) (by kernel_rfl) (by kernel_rfl) (shrink_met os _)) ?_
  · intro t ht
    have hm : t ∈ [41] := by
      have : Tryz.f5.params.toList = [41] := rfl
      rw [this] at ht
      simpa using ht
    have hall : ([41].all fun u => Tryz.prog.readableRec u && decide (u < Tryz.prog.types.size)) = true := by kernel_rfl
    have := List.all_eq_true.1 hall t hm
    rw [Bool.and_eq_true, decide_eq_true_eq] at this
    exact this
  · intro ds h
    have h : ds.length = 1 := h
    match ds, h with
    | [d1], _ => rfl
  intro W base args ds p hval0 hA0 hsh _
  have hval : ∀ (j : Nat) t v, Tryz.f5.params[j]? = some t → args[j]? = some v → Value.okWide Tryz.prog W .any base t v := hval0
  have hA : DataW.TrodAll enc Tryz.prog W 0 (fun _ => true) true Tryz.f5.params.toList args.toList ds p := hA0
  rw [Tryz.params5] at hA hval
  obtain ⟨v0, d0, rfl, rfl, h0⟩ := trodAll_one hA
  obtain ⟨tv, pv, ts, l, rfl, ht, hp⟩ := arg_query (hval 0 _ _ rfl rfl) h0
  exact ContainShrink_spec tv pv ts l _ ht hp (Gl.of hsh)
theorem containShrink_holds : Rows.ContainShrinkSaid :=
  OpenClaim.holds_of_wide 5 Tryz.f5 rfl rfl rfl rfl rfl rfl rfl ⟨rfl, rfl, rfl, rfl, rfl⟩ rfl rfl rfl rfl rfl (by kernel_rfl) Tryz.func5 (by kernel_rfl)
    (of_decide_eq_true (by kernel_rfl)) (by unfold Func.isWrapper; rw [if_neg (of_decide_eq_false (by kernel_rfl))]; exact ⟨rfl, rfl⟩)
    (fun os started H enc _ => shrink_lifted os started H enc)
theorem containShrink_card_holds : Rows.ContainShrinkCardSaid :=
  Claim7.holds_tied_plain_at .later [] [.data, .data] true (true, "9a82f3a611ed0a1213139dee8b7e1451ac6efca37e742eac80cb11acdb2ee53f") false
    containShrink_holds (fun _ h => by cases h) (by kernel_rfl) (fun _ h => by cases h) containShrink_row_tie rfl ⟨rfl, rfl⟩ (by kernel_rfl) rfl
    (fun f fn hf hfn => by
      obtain rfl : f = 5 := Option.some.inj ((show Tryz.prog.funcNamed "veilstone/veilstonelaw26.ContainShrink" = some 5 by kernel_rfl).symm.trans hf) |>.symm
      obtain rfl : fn = Tryz.f5 := (Option.some.inj (Tryz.func5.symm.trans hfn)).symm
      exact ⟨by kernel_rfl, fun j t ht => by
        rw [Tryz.params5] at ht
        have hm : t ∈ [41] := by simpa using Array.mem_of_getElem? ht
        have hall : ([41].all fun u => !Tryz.prog.wantsStandIn u) = true := by kernel_rfl
        exact (show Tryz.prog.wantsStandIn t = false by simpa using List.all_eq_true.1 hall t hm)⟩)
    (by kernel_rfl)
#print axioms containShrink_card_holds
end Go.Proofs.YtgpmjggdloldnaaGreatDoor
