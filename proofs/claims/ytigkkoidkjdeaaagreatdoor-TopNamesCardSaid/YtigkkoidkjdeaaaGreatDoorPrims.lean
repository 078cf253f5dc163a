/-
  Three library functions do what the evaluator says.
-/
import Derived.Test.YtigkkoidkjdeaaaGreatDoorEnvOK
import Derived.Test.YtigkkoidkjdeaaaGreatDoorEvG
import Derived.Test.YtigkkoidkjdeaaaGreatDoorShelf
namespace Go.EvN
open Go Go.Ev Go.Proofs
theorem prAll : BT.All (fun k n => (k = 127 ∧ n = 1) ∨ (k = 259 ∧ n = 2) ∨ (k = 240 ∧ n = 3)) prTree := ⟨by decide, ⟨by decide, trivial, trivial⟩, ⟨by decide, trivial, trivial⟩⟩
theorem pr_cases {f n : Nat} (h : E.prim f = some n) : (f = 127 ∧ n = 1) ∨ (f = 259 ∧ n = 2) ∨ (f = 240 ∧ n = 3) := prAll.find h
theorem P_facts : PrimFacts Tryz.prog E where
  only f n h := by rcases pr_cases h with ⟨_, rfl⟩ | ⟨_, rfl⟩ | ⟨_, rfl⟩ <;> decide
  one f h := by
    rcases pr_cases h with ⟨rfl, _⟩ | ⟨_, h⟩ | ⟨_, h⟩ <;> try cases h
    exact ⟨fun args w => Tryz.call127 args w, fun s t m w hs hm => (Tryz.strings_Contains s t m w hs hm).mono fun _ _ h => h⟩
  two f h := by
    rcases pr_cases h with ⟨_, h⟩ | ⟨rfl, _⟩ | ⟨_, h⟩ <;> try cases h
    intro s c w
    rw [run_callFunc_extern Tryz.func259 (by kernel_rfl) (by kernel_rfl) (by kernel_rfl) (e := Extern.BytealgIndexByte.indexByte) (by kernel_rfl), Lib.run_indexByteString]
    rfl
  three f h := by
    rcases pr_cases h with ⟨_, h⟩ | ⟨_, h⟩ | ⟨rfl, _⟩ <;> try cases h
    intro args w
    rw [run_callFunc_extern Tryz.func240 (by kernel_rfl) (by kernel_rfl) (by kernel_rfl) (e := Extern.MapsClone.clone) (by kernel_rfl)]
theorem P_ok : PrimOK Tryz.prog E := prims_ok P_facts
end Go.EvN
