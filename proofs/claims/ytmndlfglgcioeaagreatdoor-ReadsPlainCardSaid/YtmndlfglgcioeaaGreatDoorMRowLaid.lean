/- The tables of unicode/utf8, as the rows list them: what the walks ask, and a world for the witness. -/
import Derived.Lib.LaidIn
import Derived.Lib.LaidU8T
import Derived.Deep.DeepHandedRow
import Derived.PinnedBridge
import Derived.ProofKit
import Derived.Test.YtmndlfglgcioeaaGreatDoorCards
import Derived.Test.YtmndlfglgcioeaaGreatDoorTie
import Derived.Test.YtmndlfglgcioeaaGreatDoorGTextH
set_option maxHeartbeats 40000000
namespace Go.Proofs.YtmndlfglgcioeaaGreatDoor
open Go.ChangeShapes Go.WideShapes Go.ChangeAt Go.RowKit Go.Lib
def u8ren:Go.Shelf.Ren:=⟨fun n=>n,fun | 5=>5 | 119=>115 | 138=>117 | 139=>118 | n=>n,fun | 3=>0 | 4=>1 | n=>n⟩
theorem u8types:Go.Proofs.U8Types Tryz.prog u8ren:={ t5:=Tryz.underlying5,t119:=Tryz.underlying115,t138:=Tryz.underlying117,t139:=Tryz.underlying118 }
theorem tabs_of {W:World} (hL:laidMetH Tryz.prog [("unicode/utf8.acceptRanges",Rows.laid_unicode_utf8_acceptRanges),("unicode/utf8.first",Rows.laid_unicode_utf8_first)] W):rx W :=
 Go.Proofs.utf8Tabs_of_readsT u8types ⟨by kernel_rfl,by kernel_rfl,by kernel_rfl,by kernel_rfl,by kernel_rfl,by kernel_rfl,by kernel_rfl⟩
  (by have:=Lib.laidMet.reads hL (.tail _ (.head _));exact Pinned.utf8First_eq ▸ this) (Lib.laidMet.reads hL (.head _))
noncomputable def laidWorld (os:Os):World :=
 let w0:=World.holding Tryz.prog os ⟨#[],#[],[]⟩
 let put (h:Array Obj) (g:Nat) (cs:Array Value):Array Obj:=h.modify g fun
  | .cells _ t frozen=>.cells cs t frozen
  | o=>o
 let h1:=put w0.heap 0 (Lib.firstTab.map fun z=>Value.int .u8 z).toArray
 let h2:=put h1 1 ((List.range 16).flatMap fun i=>[Value.int .u8 (Lib.accLo i),Value.int .u8 (Lib.accHi i)]).toArray
 { w0 with heap:=h2 }
theorem laid_met_any (os:Os) (args:Array Value):laidMet Tryz.prog [("unicode/utf8.acceptRanges",Rows.laid_unicode_utf8_acceptRanges),("unicode/utf8.first",Rows.laid_unicode_utf8_first)] ((laidWorld os).forCall (fun _ _=>0) ⟨#[],args,[]⟩).memory :=
 (LaidIn.of_run (l:=[("unicode/utf8.acceptRanges",Rows.laid_unicode_utf8_acceptRanges),("unicode/utf8.first",Rows.laid_unicode_utf8_first)]) [1,0] 8 (by kernel_rfl) (by kernel_rfl) (by kernel_rfl) (by kernel_rfl)).met
end Go.Proofs.YtmndlfglgcioeaaGreatDoor
