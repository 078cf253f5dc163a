/-
  DERIVED. GIVEN WITH THE SEED: THE CARDS: each row of YtdacidinmlfliaaGreatDoorRows.lean that lists a variable, with what it lists TIED to the program's text (the seventh form; the later family's looks); each row that meets fmt, with fmt's text TOLD by the authors' own Lean function (tested against real Go, not proved from fmt's source: count such statements apart). THE CARD IS WHAT COUNTS. Prove the row's statement (the work); the ties are given (YtdacidinmlfliaaGreatDoorTie.lean); close each card by the builder's one call (the guide's Derived/Test/ToyasCard.lean, 'card_holds'). Laid BY PROGRAM, IN A SANDBOX (cutbox-door.mjs). By AI agents, Wed Nov 11 2026. No macro, syntax, notation, axiom, sorry.
-/
import Derived.Test.YtdacidinmlfliaaGreatDoorRows
import GoSem.ClaimSeven
namespace Go.Proofs.YtdacidinmlfliaaGreatDoor
namespace Rows

/-- THE TIED CARD OF 'brocadelaw20.TwinSettings'. -/
def twinSettingsCard : Claim7 := { stood := { row := twinSettingsRow, standIns := [], harness := (true, "9266f760168127111fe8cdead870c18ba361a82f9e86f7b27aff0af48b15f64f"), looks := true }, kinds := [], alts := [], laidByText := true, laidKinds := [.data, .data, .data], laidTests := true, laidLooks := .later }
def TwinSettingsCardSaid : Prop := Claim7.holds Tryz.pinned (.plain (OpenSpec.ofChange twinSettingsSpec)) twinSettingsCard

/-- THE SECOND FORM's CARD OF 'brocadelaw20.TwinSettings'. -/
def twinSettingsUptoCard : Claim7 := { stood := { row := twinSettingsUptoRow, standIns := [], harness := (true, "9266f760168127111fe8cdead870c18ba361a82f9e86f7b27aff0af48b15f64f"), looks := true }, kinds := [], alts := [], laidByText := true, laidKinds := [.data, .data, .data], laidTests := true, laidLooks := .later }
def TwinSettingsUptoCardSaid : Prop := Claim7.holds Tryz.pinned (.plain (OpenSpec.upto twinSettingsSpec)) twinSettingsUptoCard
end Rows
end Go.Proofs.YtdacidinmlfliaaGreatDoor
