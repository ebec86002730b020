/- The kit's shelf laid at this seat's program in plain declarations (written by wip/lay.py). -/
import Derived.Shelf.Slices.Clone
import Derived.Shelf.Slices.Equal
import Derived.Test.YtmndlfglgcioeaaGreatDoorProg
namespace Go.Proofs
open Go.Shelf
def Tryz.laysClone_ren : Go.Shelf.Ren := ⟨fun | 16 => 30 | n => n, fun | 24 => 28 | 9 => 9 | 4 => 4 | n => n, fun | n => n⟩
theorem Tryz.laysClone : Go.Proofs.Lays2.n16 Tryz.prog Tryz.laysClone_ren := {
  mixed := by kernel_rfl,
  f16 := Tryz.func30.trans (congrArg some (by kernel_rfl)),
  t4 := Tryz.underlying4,
  a4 := Tryz.isAgg4,
  z4 := Tryz.sizeOf4,
  v4 := Tryz.zeroValue4,
  t9 := Tryz.underlying9,
  a9 := Tryz.isAgg9,
  z9 := Tryz.sizeOf9,
  v9 := Tryz.zeroValue9,
  t24 := Tryz.underlying28,
  a24 := Tryz.isAgg28,
  z24 := Tryz.sizeOf28,
  v24 := Tryz.zeroValue28,
  i9 := by kernel_rfl }
def Tryz.laysEqS_ren : Go.Shelf.Ren := ⟨fun | 193 => 43 | n => n, fun | 31 => 28 | 9 => 9 | 4 => 4 | 3 => 3 | 0 => 0 | n => n, fun | n => n⟩
theorem Tryz.laysEqS : Go.Proofs.Lays.n193 Tryz.prog Tryz.laysEqS_ren := {
  mixed := by kernel_rfl,
  f193 := Tryz.func43.trans (congrArg some (by kernel_rfl)),
  t0 := Tryz.underlying0,
  a0 := Tryz.isAgg0,
  z0 := Tryz.sizeOf0,
  v0 := Tryz.zeroValue0,
  t3 := Tryz.underlying3,
  a3 := Tryz.isAgg3,
  z3 := Tryz.sizeOf3,
  v3 := Tryz.zeroValue3,
  t4 := Tryz.underlying4,
  a4 := Tryz.isAgg4,
  z4 := Tryz.sizeOf4,
  v4 := Tryz.zeroValue4,
  t9 := Tryz.underlying9,
  a9 := Tryz.isAgg9,
  z9 := Tryz.sizeOf9,
  v9 := Tryz.zeroValue9,
  t31 := Tryz.underlying28,
  a31 := Tryz.isAgg28,
  z31 := Tryz.sizeOf28,
  v31 := Tryz.zeroValue28 }
end Go.Proofs
