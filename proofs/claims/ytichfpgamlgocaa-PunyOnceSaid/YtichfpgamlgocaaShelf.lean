/- The kit's shelf laid at this seat's program in plain declarations (written by wip/lay.py). -/
import Derived.Shelf.Spec.SlicesInsertGrow
import Derived.Shelf.Strings.LastIndex
import Derived.Test.YtichfpgamlgocaaProg
namespace Go.Proofs
open Go.Shelf
def Try.laysIns_ren : Go.Shelf.Ren := ⟨fun | 21 => 26 | 27 => 33 | 28 => 34 | 35 => 36 | 39 => 38 | n => n, fun | 22 => 22 | 3 => 3 | 4 => 4 | 0 => 0 | n => n, fun | n => n⟩
theorem Try.laysIns : Go.Proofs.Lays2.n21 Try.prog Try.laysIns_ren := {
  mixed := by kernel_rfl,
  f21 := Try.func26.trans (congrArg some (by kernel_rfl)),
  f27 := Try.func33.trans (congrArg some (by kernel_rfl)),
  f28 := Try.func34.trans (congrArg some (by kernel_rfl)),
  f35 := Try.func36.trans (congrArg some (by kernel_rfl)),
  f39 := Try.func38.trans (congrArg some (by kernel_rfl)),
  t0 := Try.underlying0,
  a0 := Try.isAgg0,
  z0 := Try.sizeOf0,
  v0 := Try.zeroValue0,
  t3 := Try.underlying3,
  a3 := Try.isAgg3,
  z3 := Try.sizeOf3,
  v3 := Try.zeroValue3,
  t4 := Try.underlying4,
  a4 := Try.isAgg4,
  z4 := Try.sizeOf4,
  v4 := Try.zeroValue4,
  t22 := Try.underlying22,
  a22 := Try.isAgg22,
  z22 := Try.sizeOf22,
  v22 := Try.zeroValue22,
  i3 := by kernel_rfl }
def Try.laysLib_ren : Go.Shelf.Ren := ⟨fun | 149 => 24 | 222 => 31 | n => n, fun | 9 => 9 | 5 => 5 | 3 => 3 | 4 => 4 | n => n, fun | n => n⟩
theorem Try.laysLib : Go.Proofs.Lays.n149 Try.prog Try.laysLib_ren := {
  mixed := by kernel_rfl,
  f149 := Try.func24.trans (congrArg some (by kernel_rfl)),
  f222 := Try.func31.trans (congrArg some (by kernel_rfl)),
  t3 := Try.underlying3,
  a3 := Try.isAgg3,
  z3 := Try.sizeOf3,
  v3 := Try.zeroValue3,
  t4 := Try.underlying4,
  a4 := Try.isAgg4,
  z4 := Try.sizeOf4,
  v4 := Try.zeroValue4,
  t5 := Try.underlying5,
  a5 := Try.isAgg5,
  z5 := Try.sizeOf5,
  v5 := Try.zeroValue5,
  t9 := Try.underlying9,
  a9 := Try.isAgg9,
  z9 := Try.sizeOf9,
  v9 := Try.zeroValue9 }
end Go.Proofs
