/- The tables of unicode/utf8, strconv and math/bits, as the rows list them: what the walks ask, and a world for the witness. -/
import Derived.Lib.LaidIn
import Derived.Lib.LaidU8T
import Derived.Lib.TrailingZeros
import Derived.Deep.DeepHandedRow
import Derived.PinnedBridge
import Derived.ProofKit
import Derived.Test.YtmndlfglgcioeaaGreatDoorCards
import Derived.Test.YtmndlfglgcioeaaGreatDoorTie
import Derived.Test.YtmndlfglgcioeaaGreatDoorEGTextH
import Derived.Test.YtmndlfglgcioeaaGreatDoorEGNumB
set_option maxHeartbeats 40000000
namespace Go.Proofs.YtmndlfglgcioeaaGreatDoor
open Go.ChangeShapes Go.WideShapes Go.ChangeAt Go.RowKit Go.Lib
def vd:List (String×DataW Unit):=[("math/bits.deBruijn32tab",Rows.laid_math_bits_deBruijn32tab),("math/bits.deBruijn64tab",Rows.laid_math_bits_deBruijn64tab),("internal/strconv.uint64pow10",Rows.laid_internal_strconv_uint64pow10),("unicode/utf8.acceptRanges",Rows.laid_unicode_utf8_acceptRanges),("unicode/utf8.first",Rows.laid_unicode_utf8_first)]
def a57:Go.Shelf.Ren:=⟨fun n=>n,fun | 5=>5 | 119=>115 | 138=>117 | 139=>118 | n=>n,fun | 3=>0 | 4=>1 | n=>n⟩
theorem Xw:Go.Proofs.U8Types Tryz.prog a57:={ t5:=Tryz.underlying5,t119:=Tryz.underlying115,t138:=Tryz.underlying117,t139:=Tryz.underlying118 }
theorem a66 {W:World} (hL:laidMetH Tryz.prog vd W):up W :=
 Go.Proofs.utf8Tabs_of_readsT Xw ⟨by kernel_rfl,by kernel_rfl,by kernel_rfl,by kernel_rfl,by kernel_rfl,by kernel_rfl,by kernel_rfl⟩
  (by have:=Lib.laidMet.reads hL (.tail _ (.tail _ (.tail _ (.tail _ (.head _)))));exact Pinned.utf8First_eq ▸ this) (Lib.laidMet.reads hL (.tail _ (.tail _ (.tail _ (.head _)))))
theorem z6 {P:Program} {W:World} {name:String} {k:IntKind} {zs:List Int} {g:Nat} {t e:TypeId} {n:Nat}
  (hg:P.globalNamed name=some g) (hty:(P.globals[g]?).map (·.type)=some t) (ht:P.underlying t=some (.array n e)) (he:P.underlying e=some (.int k)) (hce:P.cellsOf e=1) (hct:P.cellsOf t=n)
  (h:VarReads P W name (tabData k zs)):TabIs P W name k zs:=by
 obtain ⟨g',t',cs,fuel,p,hg',ht',hvar,hd⟩:=h
 obtain rfl:=Option.some.inj (hg.symm.trans hg')
 obtain rfl:=Option.some.inj (hty.symm.trans ht')
 unfold TabIs
 rw [hvar,<- cells_of_tab ht he hce hct hd]
def Z0:List Int:=deBruijn64tab.map Int.ofNat
def a8M:List Int:=deBruijn32tab.map Int.ofNat
theorem e10:(Rows.laid_internal_strconv_uint64pow10:DataW Unit)=tabData .u64 pow10Tab:=by kernel_rfl
theorem e64:(Rows.laid_math_bits_deBruijn64tab:DataW Unit)=tabData .u8 Z0:=by kernel_rfl
theorem ne_of {W:World} (hL:laidMetH Tryz.prog vd W):NE W:=by
 have h1:VarReads Tryz.prog W "internal/strconv.uint64pow10" (tabData .u64 pow10Tab):=e10 ▸ Lib.laidMet.reads hL (.tail _ (.tail _ (.head _)))
 have h2:VarReads Tryz.prog W "math/bits.deBruijn64tab" (tabData .u8 Z0):=e64 ▸ Lib.laidMet.reads hL (.tail _ (.head _))
 have t1:=z6 (g:=3) (t:=189) (by kernel_rfl) (by kernel_rfl) Tryz.underlying189 Tryz.underlying140 (by kernel_rfl) (by kernel_rfl) h1
 have t2:=z6 (g:=5) (t:=207) (by kernel_rfl) (by kernel_rfl) Tryz.underlying207 Tryz.underlying5 (by kernel_rfl) (by kernel_rfl) h2
 exact ⟨t1,by have:=t2.cell (g:=5) (by kernel_rfl) 15 (by decide);rw [this];rfl⟩
noncomputable def MP (os:Os):World :=
 let w0:=World.holding Tryz.prog os ⟨#[],#[],[]⟩
 let put (h:Array Obj) (g:Nat) (cs:Array Value):Array Obj:=h.modify g fun
  | .cells _ t frozen=>.cells cs t frozen
  | o=>o
 let h1:=put w0.heap 3 (pow10Tab.map fun z=>Value.int .u64 z).toArray
 let h2:=put h1 5 (Z0.map fun z=>Value.int .u8 z).toArray
 let h3:=put h2 4 (a8M.map fun z=>Value.int .u8 z).toArray
 let h4:=put h3 0 (Lib.firstTab.map fun z=>Value.int .u8 z).toArray
 let h5:=put h4 1 ((List.range 16).flatMap fun i=>[Value.int .u8 (Lib.accLo i),Value.int .u8 (Lib.accHi i)]).toArray
 { w0 with heap:=h5 }
theorem Wr (os:Os) (args:Array Value):laidMet Tryz.prog vd ((MP os).forCall (fun _ _=>0) ⟨#[],args,[]⟩).memory :=
 (LaidIn.of_run (l:=vd) [4,5,3,1,0] 8 (by kernel_rfl) (by kernel_rfl) (by kernel_rfl) (by kernel_rfl)).met
end Go.Proofs.YtmndlfglgcioeaaGreatDoor
