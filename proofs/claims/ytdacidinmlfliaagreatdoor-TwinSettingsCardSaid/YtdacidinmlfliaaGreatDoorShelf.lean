/-
  strings.Contains by its contract, off the shelf, at this dump.
-/
import Derived.Shelf.Lays
import Derived.Shelf.Strings.Search3
import Derived.Test.YtdacidinmlfliaaGreatDoorProg
import Derived.KernelRfl
namespace Go.Proofs
open Go.Shelf
def Tryz.lays144_ren : Go.Shelf.Ren := ⟨fun | 144 => 114 | 143 => 201 | 219 => 245 | 217 => 203 | 225 => 287 | 224 => 288 | 267 => 289 | 266 => 246 | 314 => 323 | n => n, fun | 9 => 9 | 4 => 4 | 3 => 3 | 5 => 5 | 46 => 426 | 146 => 471 | 51 => 460 | n => n, fun | 1 => 0 | n => n⟩
theorem Tryz.lays144 : Go.Proofs.Lays.n144 Tryz.prog Tryz.lays144_ren := {
  mixed := by kernel_rfl
  f143 := Tryz.func201.trans (congrArg some (by kernel_rfl))
  f144 := Tryz.func114.trans (congrArg some (by kernel_rfl))
  f217 := Tryz.func203.trans (congrArg some (by kernel_rfl))
  f219 := Tryz.func245.trans (congrArg some (by kernel_rfl))
  f224 := Tryz.func288.trans (congrArg some (by kernel_rfl))
  f225 := Tryz.func287.trans (congrArg some (by kernel_rfl))
  f266 := Tryz.func246.trans (congrArg some (by kernel_rfl))
  f267 := Tryz.func289.trans (congrArg some (by kernel_rfl))
  f314 := Tryz.func323.trans (congrArg some (by kernel_rfl))
  t3 := Tryz.underlying3
  a3 := Tryz.isAgg3
  z3 := Tryz.sizeOf3
  v3 := Tryz.zeroValue3
  t4 := Tryz.underlying4
  a4 := Tryz.isAgg4
  z4 := Tryz.sizeOf4
  v4 := Tryz.zeroValue4
  t5 := Tryz.underlying5
  a5 := Tryz.isAgg5
  z5 := Tryz.sizeOf5
  v5 := Tryz.zeroValue5
  t9 := Tryz.underlying9
  a9 := Tryz.isAgg9
  z9 := Tryz.sizeOf9
  v9 := Tryz.zeroValue9
  t46 := Tryz.underlying426
  a46 := Tryz.isAgg426
  z46 := Tryz.sizeOf426
  v46 := Tryz.zeroValue426
  t51 := Tryz.underlying460
  a51 := Tryz.isAgg460
  z51 := Tryz.sizeOf460
  v51 := Tryz.zeroValue460
  t146 := Tryz.underlying471
  a146 := Tryz.isAgg471
  z146 := Tryz.sizeOf471
  v146 := Tryz.zeroValue471
  g1 := by kernel_rfl }
open Go.RowKit Go.Lib in
/-- strings.Contains, off the shelf -/
theorem Tryz.strings_Contains (s sub : ByteArray) (m : Int) (w : World) (hs : s.size < 4294967281) (hm : w.cell? ⟨0, 0, none⟩ = some (.int .i64 m)) :
    Calls Tryz.prog 114 #[.string s, .string sub] w fun e w' => e = .returned (.bool (Lib.contains s.data.toList sub.data.toList)) ∧ w' = w := Any.strings_Contains Tryz.lays144 s sub m w hs hm
end Go.Proofs
