/- Joined texts. -/
import Derived.Test.YthfkicfjlljjiaaGreatDoorLGFilW
set_option maxHeartbeats 40000000
namespace Go.Proofs.YthfkicfjlljjiaaGreatDoor
open Tryz
open Go.RowKit
set_option maxRecDepth 10000
section
variable {o:Oper} {a:Act} {w:H}
end
theorem a3E(w:H)(T:TypeId)(c:Array Z):∃ W,w.alloc (.cells c T)=W/\CB W w.heap.size T c/\r7 w W :=
 ⟨_,rfl,CB.new w T c,(Below.refl w.heap.size w).alloc (ag _) (.cells c T)⟩
end Go.Proofs.YthfkicfjlljjiaaGreatDoor
set_option maxHeartbeats 40000000
namespace Go.Proofs.YthfkicfjlljjiaaGreatDoor
open Tryz
open Go.RowKit
set_option maxRecDepth 10000
section
variable {H':Type} {enc:TypeId×Z->H'} {w:H}
theorem Zh:prog.cellsOf 9=1/\prog.cellsOf 29=1/\prog.cellsOf 30=8/\prog.cellsOf 32=11/\prog.cellsOf 34=23/\prog.cellsOf 55=25/\prog.cellsOf 50=2:=by
 refine⟨?_,?_,?_,?_,?_,?_,?_⟩ <;>kernel_rfl
theorem Oq:prog.cellsOf 3=1/\prog.cellsOf 28=1/\prog.cellsOf 4=1/\prog.cellsOf 22=1/\prog.cellsOf 48=1:=by
 refine⟨?_,?_,?_,?_,?_⟩ <;>kernel_rfl
theorem A3{cs:List Z}(h:Tr enc w 22 cs):∃ v l,cs=[v]/\Sl w.heap.size w v (List.map S l):=by
 rcases So underlying22 h with rfl|⟨a,len,cap,rfl,Y,I,f⟩
 ·exact⟨_,[],rfl,Sl.nil⟩
 rw[Zh.1]at f
 have m:∀ i,i<len->∃ b:O,w.cell? (a.add i)=some (S b):=by
  intro i hi;obtain⟨ds,g,n,d⟩:=f i hi;obtain⟨b,rfl⟩:=MB underlying9 d;have:=n 0 M0;rw[b5v]at this;refine⟨b,?_⟩;have e:(a.add i).add 0=a.add i:=by simp[Addr.add]
  rw[e]at this;exact this
 obtain⟨l,g,k⟩:=sZ len m;refine⟨_,l,rfl,cap,by rw[ay];omega,I,?_⟩;by_cases h0:len=0
 ·left
  have:l=[]:=az M0;subst this;exact⟨rfl,some a,by rw[h0]⟩
 right
 obtain⟨b,o,rfl,U⟩:=Ua (k 0 M0);refine⟨b,o,U,by rw[ay,g],λj p=>?_⟩;have c:j<l.length:=by simpa using p
 have:=k j c;rw[addr_add]at this;rw[this];simp
end
end Go.Proofs.YthfkicfjlljjiaaGreatDoor
set_option maxHeartbeats 40000000
namespace Go.Proofs.YthfkicfjlljjiaaGreatDoor
open Tryz
open Go.RowKit
set_option maxRecDepth 10000
section
variable {H':Type} {enc:TypeId×Z->H'} {w:H}
theorem Ot:prog.cellsOf 24=4:=Rz
theorem b0r{cs:List Z}(h:Tr enc w 24 cs):∃ e d f p,cs=[e,d,f,Value.int .i64 (qh.most p)]/\BB w e d f p:=by
 obtain⟨k,c⟩:=Sn underlying24 h;rw[Ot]at k;have f0:Tr enc w 22 ((cs.drop 0).take (prog.cellsOf 22)):=c 0 _ rfl;have f1:Tr enc w 22 ((cs.drop 1).take (prog.cellsOf 22)):=c 1 _ rfl;have f2:Tr enc w 22 ((cs.drop 2).take (prog.cellsOf 22)):=c 2 _ rfl;have f3:Tr enc w 3 ((cs.drop 3).take (prog.cellsOf 3)):=c 3 _ rfl;rw[Oq.2.2.2.1]at f0 f1 f2;rw[Oq.1]at f3
 match cs,k with
 | [a0,a1,a2,a3],_ =>
  simp only[List.drop,List.take]at f0 f1 f2 f3;obtain⟨e,l,e0,h0⟩:=A3 f0;obtain⟨d,n,g,Y⟩:=A3 f1;obtain⟨f,q,i,I⟩:=A3 f2;obtain⟨m,j,_⟩:=a01 underlying3 f3;refine⟨e,d,f,⟨l,n,q,m⟩,?_,⟨h0,Y,I⟩⟩;simp only[b7x,and_true]at e0 g i j;subst e0 g i j;rfl
end
