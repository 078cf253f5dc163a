/-
  The kernel evaluates brocadelaw20.shown: it returns true.
-/
import Derived.KernelRfl
import Derived.Test.YtdacidinmlfliaaGreatDoorEnv
set_option maxRecDepth 100000
namespace Go.EvN
open Go Go.Ev Go.Proofs
/-- the start: object 0 is the variable internal/bytealg.MaxLen -/
noncomputable def start (o : Obj) : H := ⟨Tr.put .z .e (some (.gl 0 o)), .o .z⟩
/-- 'true', and the variable is there as it was -/
noncomputable def outO : VR → Option AObj
  | .ok (.b true) h => h.t.get .z
  | _ => none
theorem shown_true (o : Obj) : outO (callF E (rc E 1000000) false 4 [] (start o)) = some (.gl 0 o) := by kernel_rfl
end Go.EvN
