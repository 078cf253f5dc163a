/-
  strings.Contains by its contract, off the shelf, at this dump.
-/
import Derived.Shelf.Lays
import Derived.Shelf.Strings.Search3
import Derived.Test.YtigkkoidkjdeaaaGreatDoorProg
import Derived.KernelRfl
namespace Go.Proofs
open Go.Shelf
def Tryz.lays144_ren : Go.Shelf.Ren := ⟨fun | 143 => 215 | 144 => 127 | 217 => 217 | 219 => 258 | 224 => 300 | 225 => 299 | 266 => 259 | 267 => 301 | 314 => 330 | n => n, fun | 3 => 3 | 4 => 4 | 5 => 5 | 9 => 9 | 46 => 270 | 51 => 268 | 146 => 477 | n => n, fun | 1 => 3 | n => n⟩
theorem Tryz.lays144 : Go.Proofs.Lays.n144 Tryz.prog Tryz.lays144_ren := {
  mixed := by kernel_rfl
  f143 := Tryz.func215.trans (congrArg some (by kernel_rfl))
  f144 := Tryz.func127.trans (congrArg some (by kernel_rfl))
  f217 := Tryz.func217.trans (congrArg some (by kernel_rfl))
  f219 := Tryz.func258.trans (congrArg some (by kernel_rfl))
  f224 := Tryz.func300.trans (congrArg some (by kernel_rfl))
  f225 := Tryz.func299.trans (congrArg some (by kernel_rfl))
  f266 := Tryz.func259.trans (congrArg some (by kernel_rfl))
  f267 := Tryz.func301.trans (congrArg some (by kernel_rfl))
  f314 := Tryz.func330.trans (congrArg some (by kernel_rfl))
  t3 := Tryz.underlying3
  a3 := Tryz.isAgg3
  z3 := Tryz.sizeOf3
  v3 := Tryz.zeroValue3
  t4 := Tryz.underlying4
  a4 := Tryz.isAgg4
  z4 := Tryz.sizeOf4
  v4 := Tryz.zeroValue4
  t5 := Tryz.underlying5
  a5 := Tryz.isAgg5
  z5 := Tryz.sizeOf5
  v5 := Tryz.zeroValue5
  t9 := Tryz.underlying9
  a9 := Tryz.isAgg9
  z9 := Tryz.sizeOf9
  v9 := Tryz.zeroValue9
  t46 := Tryz.underlying270
  a46 := Tryz.isAgg270
  z46 := Tryz.sizeOf270
  v46 := Tryz.zeroValue270
  t51 := Tryz.underlying268
  a51 := Tryz.isAgg268
  z51 := Tryz.sizeOf268
  v51 := Tryz.zeroValue268
  t146 := Tryz.underlying477
  a146 := Tryz.isAgg477
  z146 := Tryz.sizeOf477
  v146 := Tryz.zeroValue477
  g1 := by kernel_rfl }
open Go.RowKit Go.Lib in
/-- strings.Contains, off the shelf -/
theorem Tryz.strings_Contains (s sub : ByteArray) (m : Int) (w : World) (hs : s.size < 4294967281) (hm : w.cell? ⟨3, 0, none⟩ = some (.int .i64 m)) :
    Calls Tryz.prog 127 #[.string s, .string sub] w fun e w' => e = .returned (.bool (Lib.contains s.data.toList sub.data.toList)) ∧ w' = w := Any.strings_Contains Tryz.lays144 s sub m w hs hm
end Go.Proofs
