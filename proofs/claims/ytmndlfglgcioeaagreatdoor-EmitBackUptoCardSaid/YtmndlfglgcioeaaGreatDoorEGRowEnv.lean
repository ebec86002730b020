/- A number stands in bytealg's MaxLen: out of the world's shape. -/
import Derived.Shelf.Vars
import Derived.KernelRfl
import Derived.Test.YtmndlfglgcioeaaGreatDoorProg
set_option maxHeartbeats 40000000
namespace Go.Proofs.YtmndlfglgcioeaaGreatDoor
open Tryz
theorem a2t{W:World}(h:W.ShapedOpen prog):∃ m,W.cell? ⟨2,0,none⟩=some (.int .i64 m) :=
 cell_of_shapedOpen_int (g:=2) (zero:=#[.int .i64 0]) (t:=3) h (of_decide_eq_true (by kernel_rfl)) (by kernel_rfl) rfl (by kernel_rfl) (by kernel_rfl) underlying3
end Go.Proofs.YtmndlfglgcioeaaGreatDoor
