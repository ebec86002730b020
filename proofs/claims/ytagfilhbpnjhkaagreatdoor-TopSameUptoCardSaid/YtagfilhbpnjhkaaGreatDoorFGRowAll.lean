import Derived.Lib.LaidIn
import Derived.Lib.LaidU8T
import Derived.Lib.TrailingZeros
import Derived.Deep.DeepHandedRow
import Derived.PinnedBridge
import Derived.ProofKit
import Derived.Test.YtagfilhbpnjhkaaGreatDoorCards
import Derived.Test.YtagfilhbpnjhkaaGreatDoorTie
import Derived.Test.YtagfilhbpnjhkaaGreatDoorFGTextH
import Derived.Test.YtagfilhbpnjhkaaGreatDoorFGNumB
set_option maxHeartbeats 0
namespace Go.Proofs.YtagfilhbpnjhkaaGreatDoor
open Go.Proofs.Q
open Go.ChangeShapes Go.WideShapes Go.ChangeAt Go.RowKit Go.Lib
def lawLaid:List (String×DataW Unit):=[("math/bits.deBruijn32tab",Rows.laid_math_bits_deBruijn32tab),("math/bits.deBruijn64tab",Rows.laid_math_bits_deBruijn64tab),("internal/strconv.uint64pow10",Rows.laid_internal_strconv_uint64pow10),("unicode/utf8.acceptRanges",Rows.laid_unicode_utf8_acceptRanges),("unicode/utf8.first",Rows.laid_unicode_utf8_first)]
def a3R:Go.Shelf.Ren:=⟨λn=>n,λ| 5=>5 | 119=>186 | 138=>188 | 139=>189 | n=>n,λ| 3=>1 | 4=>2 | n=>n⟩
theorem u8types:Go.Proofs.U8Types Tryz.prog a3R:={ t5:=Tryz.underlying5,t119:=Tryz.underlying186,t138:=Tryz.underlying188,t139:=Tryz.underlying189 }
theorem a6j {W:H} (a:laidMetH Tryz.prog lawLaid W):uL W :=
 Go.Proofs.utf8Tabs_of_readsT u8types ⟨by kernel_rfl,by kernel_rfl,by kernel_rfl,by kernel_rfl,by kernel_rfl,by kernel_rfl,by kernel_rfl⟩
  (by have:=Lib.laidMet.reads a (.tail _ (.tail _ (.tail _ (.tail _ (.head _)))));exact Pinned.utf8First_eq ▸ this) (Lib.laidMet.reads a (.tail _ (.tail _ (.tail _ (.head _)))))
theorem vk {P:Program} {W:H} {name:String} {k:IntKind} {zs:List Int} {g:Nat} {t e:TypeId} {n:Nat}
  (j:P.globalNamed name=some g) (i:(P.globals[g]?).map (·.type)=some t) (l:P.underlying t=some (.array n e)) (he:P.underlying e=some (.int k)) (a:P.cellsOf e=1) (c:P.cellsOf t=n)
  (h:VarReads P W name (tabData k zs)):TabIs P W name k zs:=by
 obtain ⟨g',t',cs,fuel,p,d,f,hvar,hd⟩:=h
 obtain rfl:=Option.some.inj (j.symm.trans d)
 obtain rfl:=Option.some.inj (i.symm.trans f)
 unfold TabIs
 rw [hvar,<- cells_of_tab l he a c hd]
def db64:List Int:=deBruijn64tab.map Int.ofNat
def a7w:List Int:=deBruijn32tab.map Int.ofNat
theorem e10:(Rows.laid_internal_strconv_uint64pow10:DataW Unit)=tabData .u64 pow10Tab:=by kernel_rfl
theorem e64:(Rows.laid_math_bits_deBruijn64tab:DataW Unit)=tabData .u8 db64:=by kernel_rfl
theorem ne_of {W:H} (a:laidMetH Tryz.prog lawLaid W):NE W:=by
 have Y:VarReads Tryz.prog W "internal/strconv.uint64pow10" (tabData .u64 pow10Tab):=e10 ▸ Lib.laidMet.reads a (.tail _ (.tail _ (.head _)))
 have I:VarReads Tryz.prog W "math/bits.deBruijn64tab" (tabData .u8 db64):=e64 ▸ Lib.laidMet.reads a (.tail _ (.head _))
 have t1:=vk (g:=3) (t:=191) (by kernel_rfl) (by kernel_rfl) Tryz.underlying191 Tryz.underlying136 (by kernel_rfl) (by kernel_rfl) Y
 have t2:=vk (g:=5) (t:=216) (by kernel_rfl) (by kernel_rfl) Tryz.underlying216 Tryz.underlying5 (by kernel_rfl) (by kernel_rfl) I
 exact ⟨t1,by have:=t2.cell (g:=5) (by kernel_rfl) 15 (by decide);rw [this];rfl⟩
noncomputable def vo (os:Os):H :=
 let w0:=World.holding Tryz.prog os ⟨#[],#[],[]⟩
 let put (h:Array Obj) (g:Nat) (cs:Array Z):Array Obj:=h.modify g λ
  | .cells _ t frozen=>.cells cs t frozen
  | o=>o
 let Y:=put w0.heap 3 (pow10Tab.map λz=>Value.int .u64 z).toArray
 let I:=put Y 5 (db64.map λz=>Value.int .u8 z).toArray
 let c:=put I 4 (a7w.map λz=>Value.int .u8 z).toArray
 let d:=put c 1 (Lib.firstTab.map λz=>Value.int .u8 z).toArray
 let e:=put d 2 ((List.range 16).flatMap λi=>[Value.int .u8 (Lib.accLo i),Value.int .u8 (Lib.accHi i)]).toArray
 { w0 with heap:=e }
theorem vy (os:Os) (args:Array Z):laidMet Tryz.prog lawLaid ((vo os).forCall (λ_ _=>0) ⟨#[],args,[]⟩).memory :=
 (LaidIn.of_run (l:=lawLaid) [4,5,3,2,1] 8 (by kernel_rfl) (by kernel_rfl) (by kernel_rfl) (by kernel_rfl)).met
