/- The tables of unicode/utf8, as the rows list them: what the walks ask, and a world for the witness. -/
import Derived.Lib.LaidIn
import Derived.Lib.LaidU8T
import Derived.Deep.DeepHandedRow
import Derived.PinnedBridge
import Derived.ProofKit
import Derived.Test.YtjgenpooedkfmaaDoorCards
import Derived.Test.YtjgenpooedkfmaaDoorTie
import Derived.Test.YtjgenpooedkfmaaDoorGTextH
namespace Go.Proofs.YtjgenpooedkfmaaDoor
open Go.ChangeShapes Go.WideShapes Go.ChangeAt Go.RowKit Go.Lib

/-- the numbers of the tables' types and variables -/
def u8ren : Go.Shelf.Ren := ⟨fun n => n, fun | 5 => 5 | 119 => 127 | 138 => 129 | 139 => 130 | n => n, fun | 3 => 1 | 4 => 2 | n => n⟩
theorem u8types : Go.Proofs.U8Types Tryd.prog u8ren := { t5 := Tryd.underlying5, t119 := Tryd.underlying127, t138 := Tryd.underlying129, t139 := Tryd.underlying130 }
theorem tabs_of {W : World} (hL : laidMetH Tryd.prog [("unicode/utf8.acceptRanges", Rows.laid_unicode_utf8_acceptRanges), ("unicode/utf8.first", Rows.laid_unicode_utf8_first)] W) : Tabs W :=
  Go.Proofs.utf8Tabs_of_readsT u8types ⟨by kernel_rfl, by kernel_rfl, by kernel_rfl, by kernel_rfl, by kernel_rfl, by kernel_rfl, by kernel_rfl⟩
    (by have := Lib.laidMet.reads hL (.tail _ (.head _)); exact Pinned.utf8First_eq ▸ this) (Lib.laidMet.reads hL (.head _))

/-- a world that holds the two tables -/
noncomputable def laidWorld (os : Os) : World :=
  let w0 := World.holding Tryd.prog os ⟨#[], #[], []⟩
  let put (h : Array Obj) (g : Nat) (cs : Array Value) : Array Obj := h.modify g fun
    | .cells _ t frozen => .cells cs t frozen
    | o => o
  let h1 := put w0.heap 1 (Lib.firstTab.map fun z => Value.int .u8 z).toArray
  let h2 := put h1 2 ((List.range 16).flatMap fun i => [Value.int .u8 (Lib.accLo i), Value.int .u8 (Lib.accHi i)]).toArray
  { w0 with heap := h2 }
theorem laid_met_any (os : Os) (args : Array Value) : laidMet Tryd.prog [("unicode/utf8.acceptRanges", Rows.laid_unicode_utf8_acceptRanges), ("unicode/utf8.first", Rows.laid_unicode_utf8_first)] ((laidWorld os).forCall (fun _ _ => 0) ⟨#[], args, []⟩).memory :=
  (LaidIn.of_run (l := [("unicode/utf8.acceptRanges", Rows.laid_unicode_utf8_acceptRanges), ("unicode/utf8.first", Rows.laid_unicode_utf8_first)]) [2, 1] 8 (by kernel_rfl) (by kernel_rfl) (by kernel_rfl) (by kernel_rfl)).met
end Go.Proofs.YtjgenpooedkfmaaDoor
