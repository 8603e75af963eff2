/-
  DERIVED. GIVEN WITH THE SEED: THE CARDS: each row of YtgpmjggdloldnaaGreatDoorRows.lean that lists a variable, with what it lists TIED to the program's text (the seventh form; the later family's looks); each row that meets fmt, with fmt's text TOLD by the authors' own Lean function (tested against real Go, not proved from fmt's source: count such statements apart). THE CARD IS WHAT COUNTS. Prove the row's statement (the work); the ties are given (YtgpmjggdloldnaaGreatDoorTie.lean); close each card by the builder's one call (the guide's Derived/Test/ToyasCard.lean, 'card_holds'). Laid BY PROGRAM, IN A SANDBOX (cutbox-door.mjs). By AI agents, Wed Nov 11 2026. No macro, syntax, notation, axiom, sorry.
-/
import Derived.Test.YtgpmjggdloldnaaGreatDoorRows
import GoSem.ClaimSeven
namespace Go.Proofs.YtgpmjggdloldnaaGreatDoor
namespace Rows

/-- THE TIED CARD OF 'veilstonelaw26.ContainOrder'. -/
def containOrderCard : Claim7 := { stood := { row := containOrderRow, standIns := [], harness := (true, "9a82f3a611ed0a1213139dee8b7e1451ac6efca37e742eac80cb11acdb2ee53f"), looks := false }, kinds := [], alts := [], laidByText := true, laidKinds := [.data, .data], laidTests := true, laidLooks := .later }
def ContainOrderCardSaid : Prop := Claim7.holds Tryz.pinned (.plain (OpenSpec.ofChange containOrderSpec)) containOrderCard

/-- THE TIED CARD OF 'veilstonelaw26.ContainCore'. -/
def containCoreCard : Claim7 := { stood := { row := containCoreRow, standIns := [], harness := (true, "9a82f3a611ed0a1213139dee8b7e1451ac6efca37e742eac80cb11acdb2ee53f"), looks := false }, kinds := [], alts := [], laidByText := true, laidKinds := [.data, .data], laidTests := true, laidLooks := .later }
def ContainCoreCardSaid : Prop := Claim7.holds Tryz.pinned (.plain (OpenSpec.ofChange containCoreSpec)) containCoreCard

/-- THE TIED CARD OF 'veilstonelaw26.ContainShrink'. -/
def containShrinkCard : Claim7 := { stood := { row := containShrinkRow, standIns := [], harness := (true, "9a82f3a611ed0a1213139dee8b7e1451ac6efca37e742eac80cb11acdb2ee53f"), looks := false }, kinds := [], alts := [], laidByText := true, laidKinds := [.data, .data], laidTests := true, laidLooks := .later }
def ContainShrinkCardSaid : Prop := Claim7.holds Tryz.pinned (.plain (OpenSpec.ofChange containShrinkSpec)) containShrinkCard

/-- THE SECOND FORM's CARD OF 'veilstonelaw26.ContainOrder'. -/
def containOrderUptoCard : Claim7 := { stood := { row := containOrderUptoRow, standIns := [], harness := (true, "9a82f3a611ed0a1213139dee8b7e1451ac6efca37e742eac80cb11acdb2ee53f"), looks := false }, kinds := [], alts := [], laidByText := true, laidKinds := [.data, .data], laidTests := true, laidLooks := .later }
def ContainOrderUptoCardSaid : Prop := Claim7.holds Tryz.pinned (.plain (OpenSpec.upto containOrderSpec)) containOrderUptoCard

/-- THE SECOND FORM's CARD OF 'veilstonelaw26.ContainCore'. -/
def containCoreUptoCard : Claim7 := { stood := { row := containCoreUptoRow, standIns := [], harness := (true, "9a82f3a611ed0a1213139dee8b7e1451ac6efca37e742eac80cb11acdb2ee53f"), looks := false }, kinds := [], alts := [], laidByText := true, laidKinds := [.data, .data], laidTests := true, laidLooks := .later }
def ContainCoreUptoCardSaid : Prop := Claim7.holds Tryz.pinned (.plain (OpenSpec.upto containCoreSpec)) containCoreUptoCard

/-- THE SECOND FORM's CARD OF 'veilstonelaw26.ContainShrink'. -/
def containShrinkUptoCard : Claim7 := { stood := { row := containShrinkUptoRow, standIns := [], harness := (true, "9a82f3a611ed0a1213139dee8b7e1451ac6efca37e742eac80cb11acdb2ee53f"), looks := false }, kinds := [], alts := [], laidByText := true, laidKinds := [.data, .data], laidTests := true, laidLooks := .later }
def ContainShrinkUptoCardSaid : Prop := Claim7.holds Tryz.pinned (.plain (OpenSpec.upto containShrinkSpec)) containShrinkUptoCard
end Rows
end Go.Proofs.YtgpmjggdloldnaaGreatDoor
