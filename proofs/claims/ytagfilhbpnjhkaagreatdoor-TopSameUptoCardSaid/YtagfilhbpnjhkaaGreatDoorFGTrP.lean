import Derived.Test.YtagfilhbpnjhkaaGreatDoorFGFilW
import Derived.ProofKit
import Derived.OpenShut
import Derived.ShutString
import Derived.ChangeOld
import Derived.Below
import Derived.ChangeArms
set_option maxRecDepth 10000
set_option maxHeartbeats 0
namespace Go.Proofs.Q
open Tryz Go.RowKit
theorem vc0{k y:Int}{o:ByteArray}:(bH k y o)[0]?= some (.int .i64 k):=rfl
theorem vc1{k y:Int}{o:ByteArray}:(bH k y o)[1]?= some (.int .i64 y):=rfl
theorem vc2{k y:Int}{o:ByteArray}:(bH k y o)[2]?= some (.string o):=rfl
section
variable {o:Oper} {a:Act} {w:H}
end
theorem a3E(w:H)(T:TypeId)(c:Array Z):∃W,w.alloc (.cells c T)=W/\CB W w.heap.size T c/\r7 w W :=
 ⟨_,rfl,CB.new w T c,(gT w.heap.size w).alloc (ag _) (.cells c T)⟩
structure pj (w W:H) (p:qh) (sv hv tv rv:Z) (raw:O) (g:Nat) (A:Z) (u:Url) (L:List (Nat×M9)):Prop where
 b:r7 w W
 e:Env W
 n:NE W
 c:CB W w.heap.size 24 (aY sv hv tv p.most)
 v:BB W sv hv tv p
 r:Sl W.heap.size W rv (Lib.byteCells raw)
 y:CB W g 34 (ai A u)
 s:Sl W.heap.size W A (u.path.map S)
 l:∀x∈L,CB W x.1 41 (vF x.2)
section
variable {w W:H} {p:qh} {sv hv tv rv:Z} {raw:O} {g:Nat} {A:Z} {u:Url} {L:List (Nat×M9)}
theorem pj.below{d:H}(h:pj w W p sv hv tv rv raw g A u L)(U:r7 W d):pj w d p sv hv tv rv raw g A u L :=
 ⟨h.b.trans (U.m h.b.size),h.e.below U,h.n.below U,h.c.keep U,h.v.below U,(h.r.below U).more U.size,h.y.keep U,(h.s.below U).more U.size,λx X=>(h.l x X).keep U⟩
theorem pj.push(h:pj w W p sv hv tv rv raw g A u L){k:Nat}{d:M9}(c:CB W k 41 (vF d)):pj w W p sv hv tv rv raw g A u ((k,d)::L) :=
 ⟨h.b,h.e,h.n,h.c,h.v,h.r,h.y,h.s,λx X=>by
  rcases aK.mp X with rfl|X
  ·exact c
  exact h.l x X⟩
theorem pj.b43(h:pj w W p sv hv tv rv raw g A u L)(f:b6w W sv hv tv p){t:O}(U:eF t=some u)(i:t.length<=300)(kind:Int){x:O}{c:Z}(X:Sl W.heap.size W c (Lib.byteCells x))(d:Tj p (gA (a1k kind).1 (a1k kind).2) u x) :
  bF prog 9 #[.agg (aY sv hv tv p.most),.agg (ai A u),S (a1k kind).1,S (a1k kind).2,c] W (.agg (vF (dQ p u (a1k kind).1 (a1k kind).2 x))):=by
 obtain⟨Y,I⟩:=a1R kind;exact vr p u _ _ x c sv hv tv A W f (a2s M0 U) h.s (am (AQ (oG (L:=300) i M0 U) (qQ (kG U)) (ag _)) M0) ⟨M0,M0⟩ X (λ_=>d) h.e h.n
theorem pj.call(h:pj w W p sv hv tv rv raw g A u L)(f:EL p){t:O}(U:eF t=some u)(e:t.length<=300)(kind:Int){x:O}{c:Z}(X:Sl W.heap.size W c (Lib.byteCells x))(d:Tj p (gA (a1k kind).1 (a1k kind).2) u x) :
  bF prog 9 #[.agg (aY sv hv tv p.most),.agg (ai A u),S (a1k kind).1,S (a1k kind).2,c] W (.agg (vF (dQ p u (a1k kind).1 (a1k kind).2 x))):=h.b43 (h.v.at f) U e kind X d
end
structure KT (w W:H) (p:qh) (sv hv tv:Z) (g:Nat) (A:Z) (u:Url):Prop where
 b:r7 w W
 e:Env W
 n:NE W
 c:CB W w.heap.size 24 (aY sv hv tv p.most)
 y:CB W g 34 (ai A u)
 s:Sl W.heap.size W A (u.path.map S)
theorem KT.below{w W d:H}{p:qh}{sv hv tv:Z}{g:Nat}{A:Z}{u:Url}(h:KT w W p sv hv tv g A u)(U:r7 W d):KT w d p sv hv tv g A u :=
 ⟨h.b.trans (U.m h.b.size),h.e.below U,h.n.below U,h.c.keep U,h.y.keep U,(h.s.below U).more U.size⟩
theorem a14(s:O)(w:H)(i:s.length<=1024000000):Calls prog 12 #[.string (E s)] w λe f=>∃a c,e=.returned (.slice a (EZ s).length c)/\r7 w f :=
 (a13 s w i).m λe f ⟨v,Y,I,d⟩=>by
  rw[ay]at I;rcases I.2 with⟨rfl,h⟩|⟨g,cap,cur,rfl,_⟩
  ·exact⟨none,0,by rw[Y,h],d⟩
  exact⟨_,_,Y,d⟩
theorem b9r{s:O}{m:Nat}(hm:s.length=m+1):Lib.hasSuffix s [44]=decide (G (s[m]' M0)=44):=by
 have e:s=s.take m++[s[m]' M0]:=by rw[<-List.take_succ_eq_append_getElem M0,aP M0]
 rw[bX,gx];unfold Lib.hasSuffix;rw[a9b];constructor
 ·rintro⟨a,c⟩
  rw[e]at c;have:=q9 c rfl;injection this with h _
  rw[<-h];decide
 intro h;have I:s[m]' M0=44:=eX (h.trans P8);exact⟨s.take m,by rw[<-I];exact e.symm⟩
section
variable {ops:Array Oper} {rest:List Oper} {o:Oper} {a:Act} {w:H} {Q:Exit->Act->H->Prop}
end
end Go.Proofs.Q
namespace Go.Proofs.Q
open Tryz
open Go.ChangeShapes Go.WideShapes Go.ChangeAt Go.RowKit
open Go.ChangeMaps (open_string shut_string)
def xQ(k:IntKind)(w:H)(a:Option Addr)(len cap:Nat)(zs:List Int):Prop :=
 (a=none/\len=0/\cap=0/\zs=[]) \/
 ∃x,a=some x/\len<=cap/\cap<=maxLen/\zs.length=cap/\(∀i,i<zs.length->w.cell? (x.add i)=some (.int k (zs.getD i 0)))/\∀n∈zs,(Lit.int k n).wf=true
theorem xQ.sl{k:IntKind}{w:H}{a:Option Addr}{len cap:Nat}{zs:List Int}(h:xQ k w a len cap zs):Sl w.heap.size w (.slice a len cap) ((zs.take len).map (Value.int k)):=by
 rcases h with⟨rfl,rfl,rfl,rfl⟩|⟨x,rfl,hl,hm,hz,hcell,hwz⟩
 ·exact Sl.nil
 have hlen:((zs.take len).map (Value.int k)).length=len:=by rw[ay,aD];omega
 refine⟨cap,M0,hm,?_⟩;by_cases l:len=0
 ·subst l
  exact .inl ⟨Oc,_,rfl⟩
 obtain⟨b,off,spot⟩:=x;have i:=hcell 0 M0;have hspot:spot=none:=by simpa[Addr.add]using World.cell?_spot i
 subst hspot;refine .inr ⟨b,off,?_,by rw[hlen],λj m=>?_⟩
 ·have c:w.cell? ⟨b,off,none⟩=some (.int k (zs.getD 0 0)):=by simpa[Addr.add]using i
  rcases cI b w.heap.size with f|d
  ·exact f
  simp[World.cell?,Array.getElem?_eq_none d]at c
 rw[hlen]at m;have:=hcell j M0;rw[addr_add]at this;rw[this];have e:j<zs.length:=M0;simp[List.getD_eq_getElem?_getD,List.getElem?_eq_getElem e]
theorem a5M{n:Int}(h:(Lit.int .u8 n).wf=true):0<=n/\n<256:=by
 simp[Lit.wf,IntKind.min,IntKind.max,IntKind.signed,IntKind.bits]at h;omega
theorem xQ.bytes{w:H}{a:Option Addr}{len cap:Nat}{zs:List Int}(h:xQ .u8 w a len cap zs):∃l:O,Sl w.heap.size w (.slice a len cap) (Lib.byteCells l):=by
 have f:=h.sl;refine⟨(zs.take len).map λz=>UInt8.ofNat z.toNat,?_⟩
 have e:Lib.byteCells ((zs.take len).map λz=>UInt8.ofNat z.toNat)=(zs.take len).map (Value.int .u8):=by
  unfold Lib.byteCells;rw[lu];refine jJ λz i=>?_;have c:z∈zs:=Bj i;rcases h with⟨_,_,_,rfl⟩|⟨x,rfl,hl,hm,hz2,hcell,d⟩
  ·simp at c
  have:=a5M (d z c);simp only[Function.comp,Value.int.injEq,true_and,fB];omega
 rw[e];exact f
section
variable {H':Type} {enc:TypeId×Z->H'} {w:H}
def Tr(enc:TypeId×Z->H')(w:H)(t:TypeId)(cs:List Z):Prop:=∃fuel x,DataW.trod enc prog w 0 (λ_=>true) true fuel t cs=some x
theorem MB{t:TypeId}{cs:List Z}(c:prog.underlying t=some .string)(h:Tr enc w t cs):∃l:O,cs=[S l]:=by
 obtain⟨fuel,x,h⟩:=h;obtain⟨s,rfl,_,_⟩:=DataW.trod_string c h;exact⟨ls s,by rw[S,kt]⟩
theorem a01{t:TypeId}{k:IntKind}{cs:List Z}(c:prog.underlying t=some (.int k))(h:Tr enc w t cs):∃n,cs=[.int k n]/\(Lit.int k n).wf=true:=by
 obtain⟨fuel,x,h⟩:=h;obtain⟨n,rfl,_,hw⟩:=DataW.trod_int c h;exact⟨n,rfl,hw⟩
theorem Sn{t:TypeId}{fs:Array Field}{cs:List Z}(e:prog.underlying t=some (.struct fs))(h:Tr enc w t cs) :
  cs.length=prog.cellsOf t/\∀(i:Nat) (f:Field),fs[i]?= some f->Tr enc w f.type ((cs.drop f.offset).take (prog.cellsOf f.type)):=by
 obtain⟨fuel,x,h⟩:=h;obtain⟨xs,n,_,_,Y,I,d⟩:=DataW.trod_struct e h;refine⟨Y,λi f c=>?_⟩;have hi:i<xs.length:=by rw[I];exact(bw.1 c).1
 exact⟨n,xs[i],by rw[d i f c,aG hi]⟩
theorem sZ{α:Type}{Q:Nat->α->Prop}:∀n,(∀i,i<n->∃b,Q i b)->∃l:List α,l.length=n/\∀i (h:i<l.length),Q i l[i]
 |0,_=>⟨[],rfl,λi h=>by simp at h⟩
 |n+1,h=>by
  obtain⟨l,Y,I⟩:=sZ n (λi hi=>h i M0);obtain⟨b,U⟩:=h n M0;refine⟨l++[b],by simp[Y],λi hi=>?_⟩;by_cases c:i<l.length
  ·rw[List.getElem_append_left c];exact I i c
  have:i=n:=by rw[ae]at hi;simp at hi;omega
  subst this;rw[a2P M0]
  simpa[Y]using U
theorem So{t e:TypeId}{cs:List Z}(q:prog.underlying t=some (.slice e))(h:Tr enc w t cs) :
  cs=[.slice none 0 0]\/∃(a:Addr) (len cap:Nat),cs=[.slice (some a) len cap]/\len<=cap/\cap<=maxLen /\
   ∀i,i<len->∃ds:List Z,ds.length=prog.cellsOf e/\(∀j,j<prog.cellsOf e->w.cell? ((a.add (i*prog.cellsOf e)).add j)=ds[j]?)/\Tr enc w e ds:=by
 obtain⟨fuel,x,h⟩:=h;rcases DataW.trod_slice q h with⟨Y,_⟩|⟨a,len,cap,elems,rest,n,_,Y,_,_,I,f,h4,k,_,_⟩
 ·exact .inl Y
 refine .inr ⟨a,len,cap,Y,I,f,λi hi=>?_⟩;have:=k i hi;rw[aG M0]at this;obtain⟨ds,c,d⟩:=Option.bind_eq_some_iff.1 this;obtain⟨_,m,l⟩:=World.cells?_some c;exact⟨ds,m,l,n,_,d⟩
theorem Ua{a:Addr}{v:Z}(h:w.cell? (a.add 0)=some v):∃b o,a=⟨b,o,none⟩/\b<w.heap.size:=by
 have e:a.add 0=a:=by simp[Addr.add]
 rw[e]at h;obtain⟨b,o,spot⟩:=a;have hspot:spot=none:=World.cell?_spot h;subst hspot;refine⟨b,o,rfl,?_⟩;rcases cI b w.heap.size with d|c
 ·exact d
 simp[World.cell?,Array.getElem?_eq_none c]at h
end
section
variable {H':Type} {enc:TypeId×Z->H'} {w:H}
theorem Zh:prog.cellsOf 9=1/\prog.cellsOf 29=1/\prog.cellsOf 30=8/\prog.cellsOf 32=11/\prog.cellsOf 34=23/\prog.cellsOf 48=25/\prog.cellsOf 45=2:=by
 refine⟨?_,?_,?_,?_,?_,?_,?_⟩ <;>kernel_rfl
theorem Oq:prog.cellsOf 3=1/\prog.cellsOf 28=1/\prog.cellsOf 4=1/\prog.cellsOf 22=1/\prog.cellsOf 43=1:=by
 refine⟨?_,?_,?_,?_,?_⟩ <;>kernel_rfl
theorem A3{cs:List Z}(h:Tr enc w 22 cs):∃v l,cs=[v]/\Sl w.heap.size w v (List.map S l):=by
 rcases So underlying22 h with rfl|⟨a,len,cap,rfl,Y,I,f⟩
 ·exact⟨_,[],rfl,Sl.nil⟩
 rw[Zh.1]at f
 have q:∀i,i<len->∃b:O,w.cell? (a.add i)=some (S b):=by
  intro i hi;obtain⟨ds,k,r,d⟩:=f i hi;obtain⟨b,rfl⟩:=MB underlying9 d;have:=r 0 M0;rw[b5v]at this;refine⟨b,?_⟩;have e:(a.add i).add 0=a.add i:=by simp[Addr.add]
  rw[e]at this;exact this
 obtain⟨l,k,m⟩:=sZ len q;refine⟨_,l,rfl,cap,by rw[ay];omega,I,?_⟩;by_cases n:len=0
 ·left
  have:l=[]:=az M0;subst this;exact⟨rfl,some a,by rw[n]⟩
 right
 obtain⟨b,o,rfl,U⟩:=Ua (m 0 M0);refine⟨b,o,U,by rw[ay,k],λj s=>?_⟩;have c:j<l.length:=by simpa using s
 have:=m j c;rw[addr_add]at this;rw[this];simp
end
section
variable {H':Type} {enc:TypeId×Z->H'} {w:H}
theorem Ot:prog.cellsOf 24=4:=Rz
theorem b0r{cs:List Z}(h:Tr enc w 24 cs):∃sv hv tv p,cs=[sv,hv,tv,Value.int .i64 (qh.most p)]/\BB w sv hv tv p:=by
 obtain⟨i,c⟩:=Sn underlying24 h;rw[Ot]at i;have f0:Tr enc w 22 ((cs.drop 0).take (prog.cellsOf 22)):=c 0 _ rfl;have f1:Tr enc w 22 ((cs.drop 1).take (prog.cellsOf 22)):=c 1 _ rfl;have f2:Tr enc w 22 ((cs.drop 2).take (prog.cellsOf 22)):=c 2 _ rfl;have f3:Tr enc w 3 ((cs.drop 3).take (prog.cellsOf 3)):=c 3 _ rfl;rw[Oq.2.2.2.1]at f0 f1 f2;rw[Oq.1]at f3
 match cs,i with
 | [a0,a1,a2,a3],_ =>
  simp only[List.drop,List.take]at f0 f1 f2 f3;obtain⟨sv,k,e0,j⟩:=A3 f0;obtain⟨hv,l,d,Y⟩:=A3 f1;obtain⟨tv,n,e,I⟩:=A3 f2;obtain⟨m,f,_⟩:=a01 underlying3 f3;refine⟨sv,hv,tv,⟨k,l,n,m⟩,?_,⟨j,Y,I⟩⟩;simp only[b7x,and_true]at e0 d e f;subst e0 d e f;rfl
end
