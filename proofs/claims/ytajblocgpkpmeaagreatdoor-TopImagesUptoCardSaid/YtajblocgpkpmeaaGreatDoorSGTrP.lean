/- Joined texts. -/
import Derived.Test.YtajblocgpkpmeaaGreatDoorSGFilW
import Derived.ProofKit
import Derived.OpenShut
import Derived.ShutString
import Derived.ChangeOld
import Derived.Below
import Derived.ChangeArms
set_option maxHeartbeats 40000000
namespace Go.Proofs.YtajblocgpkpmeaaGreatDoor
open Tryz
open Go.RowKit
set_option maxRecDepth 10000
theorem vc0{k y:Int}{o:ByteArray}:(bH k y o)[0]? = some (.int .i64 k):=rfl
theorem vc2{k y:Int}{o:ByteArray}:(bH k y o)[2]? = some (.string o):=rfl
section
variable {o:Oper} {a:Act} {w:H}
end
theorem a3E(w:H)(T:TypeId)(c:Array Z):∃ W,w.alloc (.cells c T)=W/\CB W w.heap.size T c/\r7 w W :=
 ⟨_,rfl,CB.new w T c,(Below.refl w.heap.size w).alloc (ag _) (.cells c T)⟩
end Go.Proofs.YtajblocgpkpmeaaGreatDoor
set_option maxHeartbeats 40000000
namespace Go.Proofs.YtajblocgpkpmeaaGreatDoor
open Tryz
open Go.RowKit
set_option maxRecDepth 10000
theorem Ff{o:Oper}{a:Act}{w:H}{K:Act->H->Prop}{Q:Exit->Act->H->Prop}(d:o.op=.alloc 34)
  (h:∀ (g:Nat) (c:H),OB w g 34 (ai aI U0) c->K (a.put o.dst (.pointer (some ⟨g,0,none⟩))) c):Oper.wp prog o a w K Q:=by
 unfold Oper.wp execOp;simp only[d,Sem.run_bind,Sem.run_pure,Result.andThen_ok,eD];exact h _ _ (OB.fresh w _ _)
structure KT (w W:H) (p:qh) (sv hv tv:Z) (g:Nat) (A:Z) (u:Url):Prop where
 b:r7 w W
 e:Env W
 n:NE W
 c:CB W w.heap.size 24 (aY sv hv tv p.most)
 y:CB W g 34 (ai A u)
 s:Sl W.heap.size W A (u.path.map S)
theorem KT.below{w W d:H}{p:qh}{i f j:Z}{g:Nat}{A:Z}{u:Url}(h:KT w W p i f j g A u)(U:r7 W d):KT w d p i f j g A u :=
 ⟨h.b.trans (U.m h.b.size),h.e.below U,h.n.below U,h.c.keep U,h.y.keep U,(h.s.below U).more U.size⟩
section
variable {ops:Array Oper} {rest:List Oper} {o:Oper} {a:Act} {w:H} {Q:Exit->Act->H->Prop}
theorem b8d(d:Region.wanted o (yielded ops a.tmps)=true)(x:Operand)(f:o.op=.convert 9 46 x)(l:O)(X:a.eval x=S l)(e:l.length<=maxLen)
  (h:∀ v c,Sl c.heap.size c v (Lib.byteCells l)->r7 w c->wpList prog ops Q rest (a.put o.dst v) c):wpList prog ops Q (o::rest) a w:=by
 unfold wpList;rw[if_pos d];exact .inl (a1W x f l X e h)
end
end Go.Proofs.YtajblocgpkpmeaaGreatDoor
set_option maxHeartbeats 40000000
namespace Go.Proofs.YtajblocgpkpmeaaGreatDoor
open Tryz
open Go.ChangeShapes Go.WideShapes Go.ChangeAt Go.RowKit
open Go.ChangeMaps (open_string shut_string)
def xQ(k:IntKind)(w:H)(a:Option Addr)(len cap:Nat)(zs:List Int):Prop :=
 (a=none/\len=0/\cap=0/\zs=[]) \/
 ∃x,a=some x/\len<=cap/\cap<=maxLen/\zs.length=cap/\(∀i,i<zs.length->w.cell? (x.add i)=some (.int k (zs.getD i 0)))/\∀ n∈zs,(Lit.int k n).wf=true
section
variable {H':Type} {enc:TypeId×Z->H'} {P:Program} {w:H} {base:Nat} {spare:Nat->Bool} {held:Bool}
theorem a19{t:TypeId}{fuel:Nat}{cs:List Z}{x:DataW H'×List MemPlace}{k:FloatKind}(c:P.underlying t=some (.float k))(h:DataW.trod enc P w base spare held fuel t cs=some x):∃ n,cs=[.float k n]/\x=(.lit (.float k n),[])/\(Lit.float k n).wf=true:=by
 cases fuel with
 |zero=>simp[DataW.trod]at h
 |succ n =>
  unfold DataW.trod at h;rw[c]at h
  split at h <;>simp_all
theorem open_float{r:Reach}{f:Nat}{t:TypeId}{k:FloatKind}{v:Z}{d:DataW H'}{e:List MemPlace}(c:P.underlying t=some (.float k))(hval:Value.okWide P w r f t v)(hd:DataW.Trod enc P w base spare held t v d e) :
  ∃n,v=.float k n/\d=.lit (.float k n)/\e=[]/\(Lit.float k n).wf=true:=by
 obtain⟨n,rfl⟩:∃ n,v=.float k n:=by
  simp only[Value.okWide,c,Cell.okWide]at hval;cases v <;>simp_all[Cell.ok]
 obtain⟨fuel,g⟩:=hd;obtain⟨n',h,X,hw⟩:=a19 c g;simp[Value.cells]at h;subst h;simp only[a6u]at X;exact⟨n,rfl,X.1,X.2,hw⟩
theorem shut_float{t:TypeId}{k:FloatKind}{n:Nat}(c:P.underlying t=some (.float k))(hw:(Lit.float k n).wf=true):DataW.Trod enc P w base spare held t (.float k n) (.lit (.float k n)) [] :=
 ⟨1,by simp[DataW.trod,Value.cells,c,hw]⟩
end
end Go.Proofs.YtajblocgpkpmeaaGreatDoor
set_option maxHeartbeats 40000000
namespace Go.Proofs.YtajblocgpkpmeaaGreatDoor
open Tryz
open Go.RowKit
set_option maxRecDepth 10000
section
variable {H':Type} {enc:TypeId×Z->H'} {w:H}
def Tr(enc:TypeId×Z->H')(w:H)(t:TypeId)(cs:List Z):Prop:=∃ fuel x,DataW.trod enc prog w 0 (λ_=>true) true fuel t cs=some x
theorem MB{t:TypeId}{cs:List Z}(c:prog.underlying t=some .string)(h:Tr enc w t cs):∃ l:O,cs=[S l]:=by
 obtain⟨fuel,x,h⟩:=h;obtain⟨s,rfl,_,_⟩:=DataW.trod_string c h;exact⟨ls s,by rw[S,kt]⟩
theorem a01{t:TypeId}{k:IntKind}{cs:List Z}(c:prog.underlying t=some (.int k))(h:Tr enc w t cs):∃ n,cs=[.int k n]/\(Lit.int k n).wf=true:=by
 obtain⟨fuel,x,h⟩:=h;obtain⟨n,rfl,_,hw⟩:=DataW.trod_int c h;exact⟨n,rfl,hw⟩
theorem Sn{t:TypeId}{fs:Array Field}{cs:List Z}(e:prog.underlying t=some (.struct fs))(h:Tr enc w t cs) :
  cs.length=prog.cellsOf t/\∀ (i:Nat) (f:Field),fs[i]? = some f->Tr enc w f.type ((cs.drop f.offset).take (prog.cellsOf f.type)):=by
 obtain⟨fuel,x,h⟩:=h;obtain⟨xs,n,_,_,Y,I,d⟩:=DataW.trod_struct e h;refine⟨Y,λi f c=>?_⟩;have hi:i<xs.length:=by rw[I];exact(bw.1 c).1
 exact⟨n,xs[i],by rw[d i f c,aG hi]⟩
theorem sZ{α:Type}{Q:Nat->α->Prop}:∀ n,(∀i,i<n->∃ b,Q i b)->∃ l:List α,l.length=n/\∀ i (h:i<l.length),Q i l[i]
 |0,_=>⟨[],rfl,λi h=>by simp at h⟩
 |n+1,h=>by
  obtain⟨l,Y,I⟩:=sZ n (λi hi=>h i M0);obtain⟨b,U⟩:=h n M0;refine⟨l++[b],by simp[Y],λi hi=>?_⟩;by_cases c:i<l.length
  ·rw[List.getElem_append_left c];exact I i c
  have:i=n:=by rw[ae]at hi;simp at hi;omega
  subst this;rw[a2P M0]
  simpa[Y]using U
theorem So{t e:TypeId}{cs:List Z}(m:prog.underlying t=some (.slice e))(h:Tr enc w t cs) :
  cs=[.slice none 0 0]\/∃ (a:Addr) (len cap:Nat),cs=[.slice (some a) len cap]/\len<=cap/\cap<=maxLen /\
   ∀i,i<len->∃ ds:List Z,ds.length=prog.cellsOf e/\(∀j,j<prog.cellsOf e->w.cell? ((a.add (i*prog.cellsOf e)).add j)=ds[j]?)/\Tr enc w e ds:=by
 obtain⟨fuel,x,h⟩:=h;rcases DataW.trod_slice m h with⟨Y,_⟩|⟨a,len,cap,elems,rest,n,_,Y,_,_,I,f,h4,g,_,_⟩
 ·exact .inl Y
 refine .inr ⟨a,len,cap,Y,I,f,λi hi=>?_⟩;have:=g i hi;rw[aG M0]at this;obtain⟨ds,c,d⟩:=Option.bind_eq_some_iff.1 this;obtain⟨_,l,k⟩:=World.cells?_some c;exact⟨ds,l,k,n,_,d⟩
theorem Ua{a:Addr}{v:Z}(h:w.cell? (a.add 0)=some v):∃ b o,a=⟨b,o,none⟩/\b<w.heap.size:=by
 have e:a.add 0=a:=by simp[Addr.add]
 rw[e]at h;obtain⟨b,o,spot⟩:=a;have hspot:spot=none:=World.cell?_spot h;subst hspot;refine⟨b,o,rfl,?_⟩;rcases cI b w.heap.size with d|c
 ·exact d
 simp[World.cell?,Array.getElem?_eq_none c]at h
end
end Go.Proofs.YtajblocgpkpmeaaGreatDoor
set_option maxHeartbeats 40000000
namespace Go.Proofs.YtajblocgpkpmeaaGreatDoor
open Tryz
open Go.RowKit
set_option maxRecDepth 10000
section
variable {H':Type} {enc:TypeId×Z->H'} {w:H}
theorem Zh:prog.cellsOf 9=1/\prog.cellsOf 29=1/\prog.cellsOf 30=8/\prog.cellsOf 32=11/\prog.cellsOf 34=23/\prog.cellsOf 56=25/\prog.cellsOf 53=2:=by
 refine⟨?_,?_,?_,?_,?_,?_,?_⟩ <;>kernel_rfl
theorem Oq:prog.cellsOf 3=1/\prog.cellsOf 28=1/\prog.cellsOf 4=1/\prog.cellsOf 22=1/\prog.cellsOf 51=1:=by
 refine⟨?_,?_,?_,?_,?_⟩ <;>kernel_rfl
theorem A3{cs:List Z}(h:Tr enc w 22 cs):∃ v l,cs=[v]/\Sl w.heap.size w v (List.map S l):=by
 rcases So underlying22 h with rfl|⟨a,len,cap,rfl,Y,I,f⟩
 ·exact⟨_,[],rfl,Sl.nil⟩
 rw[Zh.1]at f
 have m:∀ i,i<len->∃ b:O,w.cell? (a.add i)=some (S b):=by
  intro i hi;obtain⟨ds,g,n,d⟩:=f i hi;obtain⟨b,rfl⟩:=MB underlying9 d;have:=n 0 M0;rw[b5v]at this;refine⟨b,?_⟩;have e:(a.add i).add 0=a.add i:=by simp[Addr.add]
  rw[e]at this;exact this
 obtain⟨l,g,k⟩:=sZ len m;refine⟨_,l,rfl,cap,by rw[ay];omega,I,?_⟩;by_cases h0:len=0
 ·left
  have:l=[]:=az M0;subst this;exact⟨rfl,some a,by rw[h0]⟩
 right
 obtain⟨b,o,rfl,U⟩:=Ua (k 0 M0);refine⟨b,o,U,by rw[ay,g],λj p=>?_⟩;have c:j<l.length:=by simpa using p
 have:=k j c;rw[addr_add]at this;rw[this];simp
end
end Go.Proofs.YtajblocgpkpmeaaGreatDoor
set_option maxHeartbeats 40000000
namespace Go.Proofs.YtajblocgpkpmeaaGreatDoor
open Tryz
open Go.RowKit
set_option maxRecDepth 10000
section
variable {H':Type} {enc:TypeId×Z->H'} {w:H}
theorem Ot:prog.cellsOf 24=4:=Rz
theorem b0r{cs:List Z}(h:Tr enc w 24 cs):∃ e d f p,cs=[e,d,f,Value.int .i64 (qh.most p)]/\BB w e d f p:=by
 obtain⟨k,c⟩:=Sn underlying24 h;rw[Ot]at k;have f0:Tr enc w 22 ((cs.drop 0).take (prog.cellsOf 22)):=c 0 _ rfl;have f1:Tr enc w 22 ((cs.drop 1).take (prog.cellsOf 22)):=c 1 _ rfl;have f2:Tr enc w 22 ((cs.drop 2).take (prog.cellsOf 22)):=c 2 _ rfl;have f3:Tr enc w 3 ((cs.drop 3).take (prog.cellsOf 3)):=c 3 _ rfl;rw[Oq.2.2.2.1]at f0 f1 f2;rw[Oq.1]at f3
 match cs,k with
 | [a0,a1,a2,a3],_ =>
  simp only[List.drop,List.take]at f0 f1 f2 f3;obtain⟨e,l,e0,h0⟩:=A3 f0;obtain⟨d,n,g,Y⟩:=A3 f1;obtain⟨f,q,i,I⟩:=A3 f2;obtain⟨m,j,_⟩:=a01 underlying3 f3;refine⟨e,d,f,⟨l,n,q,m⟩,?_,⟨h0,Y,I⟩⟩;simp only[b7x,and_true]at e0 g i j;subst e0 g i j;rfl
end
