/-
  A closed fact of the card: the translation bears the looks.
-/
import Derived.Test.YtigkkoidkjdeaaaGreatDoorRows
import Derived.JoinedOf
import Derived.SevenTiedAt
import Derived.KernelRfl
namespace Go.Proofs.YtigkkoidkjdeaaaGreatDoor
open Go
set_option maxRecDepth 100000
theorem extra2 : true = Tryz.prog.looks [] := by kernel_rfl
end Go.Proofs.YtigkkoidkjdeaaaGreatDoor
