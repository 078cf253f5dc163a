/-
  Closed facts of the card.
-/
import Derived.Test.YtdacidinmlfliaaGreatDoorRows
import Derived.JoinedOf
import Derived.SevenTiedAt
import Derived.KernelRfl
namespace Go.Proofs.YtdacidinmlfliaaGreatDoor
open Go
set_option maxRecDepth 100000
theorem extra0 : Rows.twinSettingsRow.wfByText (OpenSpec.ofChange Rows.twinSettingsSpec) = true := by kernel_rfl
theorem extra1 : Tryz.prog.mainIs = some (true, "9266f760168127111fe8cdead870c18ba361a82f9e86f7b27aff0af48b15f64f".toList) := by kernel_rfl
theorem extra3 : false = Rows.twinSettingsRow.goesBy Tryz.prog := by kernel_rfl
theorem extra4 : Tryz.prog.funcNamed Rows.twinSettingsRow.func = some 3 := by kernel_rfl
theorem extra5 : Tryz.f3.isInstance Tryz.prog Rows.twinSettingsRow.origin Rows.twinSettingsRow.targs := of_decide_eq_true (by kernel_rfl)
theorem extra6 : Tryz.f3.isWrapper Tryz.prog Rows.twinSettingsRow.wrapper Rows.twinSettingsRow.mainSum := by unfold Func.isWrapper; first | (rw [if_pos (by decide +kernel)]; kernel_rfl) | (rw [if_neg (by decide +kernel)]; exact ⟨rfl, rfl⟩)
theorem extra7 : ([3].all fun u => !Tryz.prog.wantsStandIn u) = true := by kernel_rfl
end Go.Proofs.YtdacidinmlfliaaGreatDoor
