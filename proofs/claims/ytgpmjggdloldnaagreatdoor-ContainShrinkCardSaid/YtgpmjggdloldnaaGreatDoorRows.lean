/-
  NARROWER THAN 'FOR EVERY INPUT', by the rows' own cells (each row's printed sentence says how): ContainOrder: laid · ContainCore: laid · ContainShrink: laid.
  DERIVED. THE GIVEN ROWS OF THIS SEAT. 3 by the template 'for every input the law returns true; each argument reads behind the call as it read before'; 0 by the template 'total and deterministic' (their statements: YtgpmjggdloldnaaGreatDoorTotals.lean).
  GIVEN WITH THE SEED: the statements are not yours to turn. If you find one false, say at which input.
  Laid BY PROGRAM, IN A SANDBOX (cutbox-rows.mjs): the forced cells as the released guide's own fill.sh prints them over the translation 840f08820d296ce6… (all of the seat's roots in one cut). By AI agents, Wed Nov 11 2026. No macro, syntax, notation, axiom, sorry.
-/
import Derived.Test.YtgpmjggdloldnaaGreatDoorChecked
import GoSem.Claim
import GoSem.ClaimJoined
import GoSem.ClaimMapViews
import Derived.JoinedTies
import Derived.KernelRfl
namespace Go.Proofs.YtgpmjggdloldnaaGreatDoor
/- THE CELL 'sum', in the pinned program and in every row, IS THE sha256 OF THE DUMP (.gsa) THAT YtgpmjggdloldnaaGreatDoorProg.lean LOADS. Nothing in Lean hashes anything: it is a label: what it is worth is what the hold of that sum in a sandbox is worth. -/
noncomputable def Tryz.pinned : Pinned := { name := "ytgpmjggdloldnaagreatdoor", sum := "840f08820d296ce6e3edf857956a7a7161e2c0f2d0a99c9e94b72cbdc4dfe541", checked := Tryz.checked }
namespace Rows
def none {H : Type} : Left H := { results := [], args := [] }

/- WHAT THE LISTED PACKAGE-LEVEL VARIABLES READ AS WHEN THE CALL BEGINS. Each datum BY PROGRAM (the guide's laid-datum.mjs) off the statement by which the dump's own 'gosem.cut.vars' lays the variable. In a bare row this is a premise. The card (YtgpmjggdloldnaaGreatDoorCards.lean) ties it to the program's text. -/
def laid_veilstone_terms_needs {H : Type} : DataW H := .agg [.agg [.lit (.int .i64 0), .lit (.int .i64 0), .lit (.int .i64 0), .lit (.bool false)], .agg [.lit (.int .i64 0), .lit (.int .i64 0), .lit (.int .i64 0), .lit (.bool false)], .agg [.lit (.int .i64 0), .lit (.int .i64 0), .lit (.int .i64 0), .lit (.bool false)], .agg [.lit (.int .i64 1), .lit (.int .i64 0), .lit (.int .i64 0), .lit (.bool false)], .agg [.lit (.int .i64 2), .lit (.int .i64 0), .lit (.int .i64 0), .lit (.bool false)], .agg [.lit (.int .i64 0), .lit (.int .i64 2), .lit (.int .i64 8), .lit (.bool false)], .agg [.lit (.int .i64 1), .lit (.int .i64 1), .lit (.int .i64 1), .lit (.bool false)], .agg [.lit (.int .i64 1), .lit (.int .i64 0), .lit (.int .i64 0), .lit (.bool true)]]
def laid_veilstone_terms_uses {H : Type} : DataW H := .agg [.agg [.lit (.bool false), .lit (.bool false), .lit (.bool false), .lit (.bool false), .lit (.bool false), .lit (.int .i64 0), .lit (.int .i64 0)], .agg [.lit (.bool true), .lit (.bool true), .lit (.bool false), .lit (.bool false), .lit (.bool false), .lit (.int .i64 0), .lit (.int .i64 0)], .agg [.lit (.bool true), .lit (.bool true), .lit (.bool false), .lit (.bool false), .lit (.bool false), .lit (.int .i64 0), .lit (.int .i64 0)], .agg [.lit (.bool true), .lit (.bool true), .lit (.bool false), .lit (.bool false), .lit (.bool false), .lit (.int .i64 0), .lit (.int .i64 0)], .agg [.lit (.bool false), .lit (.bool true), .lit (.bool true), .lit (.bool false), .lit (.bool false), .lit (.int .i64 0), .lit (.int .i64 0)], .agg [.lit (.bool false), .lit (.bool false), .lit (.bool true), .lit (.bool false), .lit (.bool false), .lit (.int .i64 1), .lit (.int .i64 1)], .agg [.lit (.bool false), .lit (.bool false), .lit (.bool true), .lit (.bool false), .lit (.bool false), .lit (.int .i64 2), .lit (.int .i64 4)], .agg [.lit (.bool false), .lit (.bool false), .lit (.bool true), .lit (.bool false), .lit (.bool false), .lit (.int .i64 0), .lit (.int .i64 0)], .agg [.lit (.bool false), .lit (.bool true), .lit (.bool false), .lit (.bool true), .lit (.bool false), .lit (.int .i64 0), .lit (.int .i64 0)], .agg [.lit (.bool false), .lit (.bool false), .lit (.bool true), .lit (.bool true), .lit (.bool true), .lit (.int .i64 0), .lit (.int .i64 0)]]

/-- 'veilstonelaw26.ContainOrder': WHATEVER THE INPUT: true; the input reads as it did. -/
def containOrderSpec : ChangeSpec := { name := "containOrder", fn := fun _ => fun
  | [d1, d2, d3, d4] => { results := [.lit (.bool true)], args := [d1, d2, d3, d4] }
  | _ => none }
def containOrderRow : OpenClaim := { program := "ytgpmjggdloldnaagreatdoor", sum := "840f08820d296ce6e3edf857956a7a7161e2c0f2d0a99c9e94b72cbdc4dfe541", func := "veilstone/veilstonelaw26.ContainOrder", spec := "containOrder", inPlace := ["internal/bytealg.IndexByteString", "internal/bytealg.IndexString"], unfollowed := true, recurses := true, named := ["internal/bytealg.MaxLen", "veilstone/terms.uses", "veilstone/terms.needs"], plainKeys := false, apart := false, laid := [("veilstone/terms.needs", laid_veilstone_terms_needs), ("veilstone/terms.uses", laid_veilstone_terms_uses)] }
def ContainOrderSaid : Prop := containOrderRow.holds Tryz.pinned (OpenSpec.ofChange containOrderSpec)

/-- ITS FALSE NEIGHBOUR: 'it returns false'. Refute it at one input. -/
def containOrderWrong : ChangeSpec := { name := "containOrder", fn := fun _ => fun
  | [d1, d2, d3, d4] => { results := [.lit (.bool false)], args := [d1, d2, d3, d4] }
  | _ => none }
def ContainOrderWrongFalsely : Prop := containOrderRow.holds Tryz.pinned (OpenSpec.ofChange containOrderWrong)

/-- 'veilstonelaw26.ContainCore': WHATEVER THE INPUT: true; the input reads as it did. -/
def containCoreSpec : ChangeSpec := { name := "containCore", fn := fun _ => fun
  | [d1, d2] => { results := [.lit (.bool true)], args := [d1, d2] }
  | _ => none }
def containCoreRow : OpenClaim := { program := "ytgpmjggdloldnaagreatdoor", sum := "840f08820d296ce6e3edf857956a7a7161e2c0f2d0a99c9e94b72cbdc4dfe541", func := "veilstone/veilstonelaw26.ContainCore", spec := "containCore", inPlace := ["internal/bytealg.IndexByteString", "internal/bytealg.IndexString"], unfollowed := true, recurses := true, named := ["internal/bytealg.MaxLen", "veilstone/terms.uses", "veilstone/terms.needs"], plainKeys := false, apart := false, laid := [("veilstone/terms.needs", laid_veilstone_terms_needs), ("veilstone/terms.uses", laid_veilstone_terms_uses)] }
def ContainCoreSaid : Prop := containCoreRow.holds Tryz.pinned (OpenSpec.ofChange containCoreSpec)

/-- ITS FALSE NEIGHBOUR: 'it returns false'. Refute it at one input. -/
def containCoreWrong : ChangeSpec := { name := "containCore", fn := fun _ => fun
  | [d1, d2] => { results := [.lit (.bool false)], args := [d1, d2] }
  | _ => none }
def ContainCoreWrongFalsely : Prop := containCoreRow.holds Tryz.pinned (OpenSpec.ofChange containCoreWrong)

/-- 'veilstonelaw26.ContainShrink': WHATEVER THE INPUT: true; the input reads as it did. -/
def containShrinkSpec : ChangeSpec := { name := "containShrink", fn := fun _ => fun
  | [d] => { results := [.lit (.bool true)], args := [d] }
  | _ => none }
def containShrinkRow : OpenClaim := { program := "ytgpmjggdloldnaagreatdoor", sum := "840f08820d296ce6e3edf857956a7a7161e2c0f2d0a99c9e94b72cbdc4dfe541", func := "veilstone/veilstonelaw26.ContainShrink", spec := "containShrink", inPlace := ["internal/bytealg.IndexByteString", "internal/bytealg.IndexString"], unfollowed := true, recurses := true, named := ["internal/bytealg.MaxLen", "veilstone/terms.uses", "veilstone/terms.needs"], plainKeys := false, apart := false, laid := [("veilstone/terms.needs", laid_veilstone_terms_needs), ("veilstone/terms.uses", laid_veilstone_terms_uses)] }
def ContainShrinkSaid : Prop := containShrinkRow.holds Tryz.pinned (OpenSpec.ofChange containShrinkSpec)

/-- ITS FALSE NEIGHBOUR: 'it returns false'. Refute it at one input. -/
def containShrinkWrong : ChangeSpec := { name := "containShrink", fn := fun _ => fun
  | [d] => { results := [.lit (.bool false)], args := [d] }
  | _ => none }
def ContainShrinkWrongFalsely : Prop := containShrinkRow.holds Tryz.pinned (OpenSpec.ofChange containShrinkWrong)

/- THE SECOND FORM. 'bulk': how many values and letters a reading holds, each counted each time it is reached (what is shared counts as often as it is met; a slice's spare places count too). A statement '..UptoSaid' is the law's where the arguments, and the package variables that the reading takes, are together of bulk at most 1048576: NARROWER than '..Said'. Prove '..Said' where nothing that the law and all that it calls make is longer than what came in: it says more and counts as full. Else prove '..UptoSaid'. A law counts once. -/
mutual
def uptoBulk {H : Type} : DataW H → Nat
  | .lit (.string bytes) => bytes.length + 1
  | .lit _ => 1
  | .nil => 1
  | .ptr d => uptoBulk d + 1
  | .slice elems spare => uptoBulkAll elems + uptoBulkAll spare + 1
  | .agg parts => uptoBulkAll parts + 1
  | .iface _ d => uptoBulk d + 1
  | .map entries => uptoBulkEntries entries + 1
  | .held _ => 1
def uptoBulkAll {H : Type} : List (DataW H) → Nat
  | [] => 0
  | d :: r => uptoBulk d + uptoBulkAll r
def uptoBulkEntries {H : Type} : List (Lit × DataW H) → Nat
  | [] => 0
  | x :: r => uptoBulkEntry x + uptoBulkEntries r
def uptoBulkEntry {H : Type} : Lit × DataW H → Nat
  | (.string bytes, d) => bytes.length + uptoBulk d + 1
  | (_, d) => uptoBulk d + 1
 end
def uptoSmall : (H : Type) → List (DataW H) → Bool := fun _ ds => decide (uptoBulkAll ds ≤ 1048576)
def OpenSpec.upto (s : _root_.Go.ChangeSpec) : _root_.Go.OpenSpec := { _root_.Go.OpenSpec.ofChange s with cond := some uptoSmall }

/-- 'veilstonelaw26.ContainOrder', WHERE WHAT IT READS IS OF BULK AT MOST 1048576: true; the input reads as it did. -/
def containOrderUptoRow : OpenClaim := { program := "ytgpmjggdloldnaagreatdoor", sum := "840f08820d296ce6e3edf857956a7a7161e2c0f2d0a99c9e94b72cbdc4dfe541", func := "veilstone/veilstonelaw26.ContainOrder", spec := "containOrder", inPlace := ["internal/bytealg.IndexByteString", "internal/bytealg.IndexString"], unfollowed := true, recurses := true, named := ["internal/bytealg.MaxLen", "veilstone/terms.uses", "veilstone/terms.needs"], plainKeys := false, apart := false, laid := [("veilstone/terms.needs", laid_veilstone_terms_needs), ("veilstone/terms.uses", laid_veilstone_terms_uses)], narrowed := true }
def ContainOrderUptoSaid : Prop := containOrderUptoRow.holds Tryz.pinned (OpenSpec.upto containOrderSpec)

/-- 'veilstonelaw26.ContainCore', WHERE WHAT IT READS IS OF BULK AT MOST 1048576: true; the input reads as it did. -/
def containCoreUptoRow : OpenClaim := { program := "ytgpmjggdloldnaagreatdoor", sum := "840f08820d296ce6e3edf857956a7a7161e2c0f2d0a99c9e94b72cbdc4dfe541", func := "veilstone/veilstonelaw26.ContainCore", spec := "containCore", inPlace := ["internal/bytealg.IndexByteString", "internal/bytealg.IndexString"], unfollowed := true, recurses := true, named := ["internal/bytealg.MaxLen", "veilstone/terms.uses", "veilstone/terms.needs"], plainKeys := false, apart := false, laid := [("veilstone/terms.needs", laid_veilstone_terms_needs), ("veilstone/terms.uses", laid_veilstone_terms_uses)], narrowed := true }
def ContainCoreUptoSaid : Prop := containCoreUptoRow.holds Tryz.pinned (OpenSpec.upto containCoreSpec)

/-- 'veilstonelaw26.ContainShrink', WHERE WHAT IT READS IS OF BULK AT MOST 1048576: true; the input reads as it did. -/
def containShrinkUptoRow : OpenClaim := { program := "ytgpmjggdloldnaagreatdoor", sum := "840f08820d296ce6e3edf857956a7a7161e2c0f2d0a99c9e94b72cbdc4dfe541", func := "veilstone/veilstonelaw26.ContainShrink", spec := "containShrink", inPlace := ["internal/bytealg.IndexByteString", "internal/bytealg.IndexString"], unfollowed := true, recurses := true, named := ["internal/bytealg.MaxLen", "veilstone/terms.uses", "veilstone/terms.needs"], plainKeys := false, apart := false, laid := [("veilstone/terms.needs", laid_veilstone_terms_needs), ("veilstone/terms.uses", laid_veilstone_terms_uses)], narrowed := true }
def ContainShrinkUptoSaid : Prop := containShrinkUptoRow.holds Tryz.pinned (OpenSpec.upto containShrinkSpec)

end Rows
end Go.Proofs.YtgpmjggdloldnaaGreatDoor
