/- A number stands in bytealg's MaxLen: out of the world's shape. -/
import Derived.Test.YtgfklkfbccknoaaGreatDoorProg
import Derived.Shelf.Vars
import Derived.KernelRfl
namespace Go.Proofs.YtgfklkfbccknoaaGreatDoor
theorem maxlen_of {W : World} (h : W.ShapedOpen Tryz.prog) : ∃ m, W.cell? ⟨1, 0, none⟩ = some (.int .i64 m) :=
  cell_of_shapedOpen_int (g := 1) (zero := #[.int .i64 0]) (t := 3) h (of_decide_eq_true (by kernel_rfl)) (by kernel_rfl) rfl (by kernel_rfl) (by kernel_rfl) Tryz.underlying3
end Go.Proofs.YtgfklkfbccknoaaGreatDoor
