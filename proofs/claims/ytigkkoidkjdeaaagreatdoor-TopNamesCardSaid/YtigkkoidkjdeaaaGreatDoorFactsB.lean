/-
  Closed facts of the card.
-/
import Derived.Test.YtigkkoidkjdeaaaGreatDoorRows
import Derived.JoinedOf
import Derived.SevenTiedAt
import Derived.KernelRfl
namespace Go.Proofs.YtigkkoidkjdeaaaGreatDoor
open Go
set_option maxRecDepth 100000
theorem extra0 : Rows.topNamesRow.wfByText (OpenSpec.ofChange Rows.topNamesSpec) = true := by kernel_rfl
theorem extra1 : Tryz.prog.mainIs = some (true, "a6dc57e2136ee41a4795a49529d14c716256367005b32910fe6a2eeebb1fb2ac".toList) := by kernel_rfl
theorem extra3 : false = Rows.topNamesRow.goesBy Tryz.prog := by kernel_rfl
theorem extra4 : Tryz.prog.funcNamed Rows.topNamesRow.func = some 3 := by kernel_rfl
theorem extra5 : Tryz.f3.isInstance Tryz.prog Rows.topNamesRow.origin Rows.topNamesRow.targs := of_decide_eq_true (by kernel_rfl)
theorem extra6 : Tryz.f3.isWrapper Tryz.prog Rows.topNamesRow.wrapper Rows.topNamesRow.mainSum := by unfold Func.isWrapper; first | (rw [if_pos (by decide +kernel)]; kernel_rfl) | (rw [if_neg (by decide +kernel)]; exact ⟨rfl, rfl⟩)
theorem extra7 : ([5].all fun u => !Tryz.prog.wantsStandIn u) = true := by kernel_rfl
end Go.Proofs.YtigkkoidkjdeaaaGreatDoor
