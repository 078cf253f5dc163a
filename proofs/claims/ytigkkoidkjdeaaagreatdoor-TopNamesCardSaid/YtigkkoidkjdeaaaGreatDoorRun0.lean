/-
  The kernel evaluates calls of the program.
-/
import Derived.KernelRfl
import Derived.Test.YtigkkoidkjdeaaaGreatDoorEnts
import Derived.Test.YtigkkoidkjdeaaaGreatDoorEnv
import Derived.Test.YtigkkoidkjdeaaaGreatDoorEvG
set_option maxRecDepth 100000
namespace Go.EvN
open Go Go.Ev
theorem run0 (ob : Obj) : chk e0 (callF E (rcM E (tabOf []) 1000000) false e0.f e0.vs (inH e0 ob)) = some (.gl GLB ob) := by kernel_rfl
theorem run1 (ob : Obj) : chk e1 (callF E (rcM E (tabOf []) 1000000) false e1.f e1.vs (inH e1 ob)) = some (.gl GLB ob) := by kernel_rfl
theorem ren2 : renOK (prs [(0, 0), (7686, 7686), (4544, 5803), (4613, 5872), (3054, 3054), (6604, 6604), (6606, 6606), (6583, 6583)]) e1 e2 = true := by kernel_rfl
end Go.EvN
