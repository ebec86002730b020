/- Joined texts. -/
import Derived.Test.YtpbnfjdkdfombaaGreatDoorGFilW
import Derived.Lib.LaidIn
import Derived.Lib.LaidU8T
import Derived.Lib.TrailingZeros
import Derived.Deep.DeepHandedRow
import Derived.PinnedBridge
import Derived.ProofKit
import Derived.Test.YtpbnfjdkdfombaaGreatDoorCards
import Derived.Test.YtpbnfjdkdfombaaGreatDoorTie
import Derived.OpenShut
import Derived.ShutString
import Derived.ChangeOld
import Derived.Below
import Derived.ChangeArms
set_option maxHeartbeats 40000000
namespace Go.Proofs.YtpbnfjdkdfombaaGreatDoor
open Go.Proofs.Tryz
open Go.RowKit
set_option maxRecDepth 10000
theorem vc0{k y:Int}{o:ByteArray}:(bH k y o)[0]? = some (.int .i64 k):=rfl
theorem vc1{k y:Int}{o:ByteArray}:(bH k y o)[1]? = some (.int .i64 y):=rfl
theorem vc2{k y:Int}{o:ByteArray}:(bH k y o)[2]? = some (.string o):=rfl
section
variable {o:Oper} {a:Act} {w:H}
theorem eqX(x y:Operand)(c:o.op=.binOp .eql 40 x y 40)(k z:Int)(t:ByteArray)(X:a.eval x=.agg (bH k z t))(hy:a.eval y=.agg (bH k z t)):(execOp a.eval o).run prog w=.ok (.value (.bool true)) w:=by
 have e:=a5O k z k z t t w;have g:=run_eqGuard_agg (P:=prog) w .eql 40 x y (bH k z t) (bH k z t) Rz;simp only[decide_true,b65]at e;unfold execOp;simp only[c,X,hy,Sem.run_bind,Sem.run_pure,Result.andThen_ok,e,g]
end
theorem a3E(w:H)(T:TypeId)(c:Array Z):∃ W,w.alloc (.cells c T)=W/\CB W w.heap.size T c/\r7 w W :=
 ⟨_,rfl,CB.new w T c,(Below.refl w.heap.size w).alloc (ag _) (.cells c T)⟩
theorem a1D(t:ByteArray)(w:H)(k:t.size<=1048576)(i:Env w):∃ (u:Url) (q:Bool),u.host.six.length=8/\(q=true->eF (ls t)=some u/\(ls t).length<=300) /\
  ∀W,r7 w W->Calls prog 10 #[.string t] W λe c=>∃ A,e=.returned (.tuple #[.agg (ai A u),.bool q])/\A.oneCell'=true/\Sl c.heap.size c A (u.path.map S)/\(∀b f,b<W.heap.size->Tn b c f->Sl f.heap.size f A (u.path.map S))/\r7 W c:=by
 have U:=λ(W:H) (d:r7 w W)=>a1z t W k (i.below d);cases h:eF (ls t)with
 |none =>
  rw[h]at U;exact⟨U0,false,rfl,(λh=>by cases h),λW d=>(U W d).m λe c ⟨Y,I⟩=>⟨aI,Y,rfl,Sl.nil,λ_ _ _ _=>Sl.nil,I⟩⟩
 |some u =>
  rw[h]at U;exact⟨u,decide (t.size<=300),Ds h,λj=>⟨rfl,by rw[ec];exact of_decide_eq_true j⟩,λW d=>(U W d).m λe c ⟨A,Y,I,g⟩=>⟨A,Y,bm I,Sl.ew (sB I),λ_ _ U t=>Sl.ew (sB (t.row I U)),g⟩⟩
structure K27 (w W:H) (p:qh) (sv hv tv rv:Z) (raw:O) (g:Nat) (A:Z) (u:Url) (L:List (Nat×Vrd)):Prop where
 b:r7 w W
 e:Env W
 n:NE W
 c:CB W w.heap.size 24 (aY sv hv tv p.most)
 v:BB W sv hv tv p
 r:Sl W.heap.size W rv (Lib.byteCells raw)
 y:CB W g 34 (ai A u)
 s:Sl W.heap.size W A (u.path.map S)
 l:∀ x∈L,CB W x.1 40 (vF x.2)
section
variable {w W:H} {p:qh} {sv hv tv rv:Z} {raw:O} {g:Nat} {A:Z} {u:Url} {L:List (Nat×Vrd)}
theorem K27.below{d:H}(h:K27 w W p sv hv tv rv raw g A u L)(U:r7 W d):K27 w d p sv hv tv rv raw g A u L :=
 ⟨h.b.trans (U.m h.b.size),h.e.below U,h.n.below U,h.c.keep U,h.v.below U,(h.r.below U).more U.size,h.y.keep U,(h.s.below U).more U.size,λx X=>(h.l x X).keep U⟩
theorem K27.push(h:K27 w W p sv hv tv rv raw g A u L){k:Nat}{d:Vrd}(c:CB W k 40 (vF d)):K27 w W p sv hv tv rv raw g A u ((k,d)::L) :=
 ⟨h.b,h.e,h.n,h.c,h.v,h.r,h.y,h.s,λx X=>by
  rcases aK.mp X with rfl|X
  ·exact c
  exact h.l x X⟩
theorem K27.b43(h:K27 w W p sv hv tv rv raw g A u L)(f:f9 W sv hv tv p){t:O}(U:eF t=some u)(i:t.length<=300)(kind:Int){x:O}{c:Z}(X:Sl W.heap.size W c (Lib.byteCells x))(d:Tj p (gA (a1k kind).1 (a1k kind).2) u x) :
  bF prog 12 #[.agg (aY sv hv tv p.most),.agg (ai A u),S (a1k kind).1,S (a1k kind).2,c] W (.agg (vF (dQ p u (a1k kind).1 (a1k kind).2 x))):=by
 obtain⟨Y,I⟩:=a1R kind;exact vr p u _ _ x c sv hv tv A W f (a2s M0 U) h.s (am (AQ (oG (L:=300) i M0 U) (qQ (kG U)) (ag _)) M0) ⟨M0,M0⟩ X (λ_=>d) h.e h.n
theorem K27.call(h:K27 w W p sv hv tv rv raw g A u L)(f:EL p){t:O}(U:eF t=some u)(e:t.length<=300)(kind:Int){x:O}{c:Z}(X:Sl W.heap.size W c (Lib.byteCells x))(d:Tj p (gA (a1k kind).1 (a1k kind).2) u x) :
  bF prog 12 #[.agg (aY sv hv tv p.most),.agg (ai A u),S (a1k kind).1,S (a1k kind).2,c] W (.agg (vF (dQ p u (a1k kind).1 (a1k kind).2 x))):=h.b43 (h.v.at f) U e kind X d
end
end Go.Proofs.YtpbnfjdkdfombaaGreatDoor
set_option maxHeartbeats 40000000
namespace Go.Proofs.YtpbnfjdkdfombaaGreatDoor
open Go.Proofs.Tryz
open Go.ChangeShapes Go.WideShapes Go.ChangeAt Go.RowKit Go.Lib
def g9:List (String×DataW Unit):=[("math/bits.deBruijn32tab",Rows.laid_math_bits_deBruijn32tab),("math/bits.deBruijn64tab",Rows.laid_math_bits_deBruijn64tab),("internal/strconv.uint64pow10",Rows.laid_internal_strconv_uint64pow10),("unicode/utf8.acceptRanges",Rows.laid_unicode_utf8_acceptRanges),("unicode/utf8.first",Rows.laid_unicode_utf8_first)]
def a3R:Go.Shelf.Ren:=⟨λn=>n,λ|5=>5|119=>182|138=>184|139=>185|n=>n,λ|3=>1|4=>2|n=>n⟩
theorem wd:Go.Proofs.U8Types prog a3R:={t5:=underlying5,t119:=underlying182,t138:=underlying184,t139:=underlying185}
theorem a6j{W:H}(c:laidMetH prog g9 W):uL W :=
 Go.Proofs.utf8Tabs_of_readsT wd ⟨Rz,Rz,Rz,Rz,Rz,Rz,Rz⟩
  (by have:=Lib.laidMet.reads c (.tail _ (.tail _ (.tail _ (.tail _ (.head _)))));exact Pinned.utf8First_eq▸this) (Lib.laidMet.reads c (.tail _ (.tail _ (.tail _ (.head _)))))
theorem vk{P:Program}{W:H}{name:String}{k:IntKind}{zs:List Int}{g:Nat}{t e:TypeId}{n:Nat}
  (m:P.globalNamed name=some g) (j:(P.globals[g]?).map (·.type)=some t) (q:P.underlying t=some (.array n e)) (he:P.underlying e=some (.int k)) (c:P.cellsOf e=1) (d:P.cellsOf t=n)
  (h:VarReads P W name (tabData k zs)):TabIs P W name k zs:=by
 obtain⟨g',t',cs,fuel,p,f,i,hvar,l⟩:=h;obtain rfl:=bj (m.symm.trans f);obtain rfl:=bj (j.symm.trans i);unfold TabIs;rw[hvar,<-cells_of_tab q he c d l]
def KA:List Int:=deBruijn64tab.map Int.ofNat
def a7w:List Int:=deBruijn32tab.map Int.ofNat
theorem e10:(Rows.laid_internal_strconv_uint64pow10:DataW Unit)=tabData .u64 pow10Tab:=Rz
theorem e64:(Rows.laid_math_bits_deBruijn64tab:DataW Unit)=tabData .u8 KA:=Rz
theorem ne_of{W:H}(c:laidMetH prog g9 W):NE W:=by
 have Y:VarReads prog W "internal/strconv.uint64pow10" (tabData .u64 pow10Tab):=e10▸Lib.laidMet.reads c (.tail _ (.tail _ (.head _)));have I:VarReads prog W "math/bits.deBruijn64tab" (tabData .u8 KA):=e64▸Lib.laidMet.reads c (.tail _ (.head _));have t1:=vk (g:=3) (t:=205) Rz Rz underlying205 underlying154 Rz Rz Y;have t2:=vk (g:=5) (t:=222) Rz Rz underlying222 underlying5 Rz Rz I;exact⟨t1,by have:=t2.cell (g:=5) Rz 15 P8;rw[this];rfl⟩
noncomputable def vo (os:Os):H :=
 let w0:=World.holding prog os ⟨#[],#[],[]⟩
 let put (h:Array Obj) (g:Nat) (cs:Array Z):Array Obj:=h.modify g λ
  | .cells _ t frozen=>.cells cs t frozen
  |o=>o
 let Y:=put w0.heap 3 (pow10Tab.map λz=>Value.int .u64 z).toArray
 let I:=put Y 5 (KA.map λz=>Value.int .u8 z).toArray
 let d:=put I 4 (a7w.map λz=>Value.int .u8 z).toArray
 let e:=put d 1 (Lib.firstTab.map λz=>Value.int .u8 z).toArray
 let f:=put e 2 ((List.range 16).flatMap λi=>[Value.int .u8 (Lib.accLo i),Value.int .u8 (Lib.accHi i)]).toArray
 {w0 with heap:=f}
theorem vy(os:Os)(args:Array Z):laidMet prog g9 ((vo os).forCall (λ_ _=>0) ⟨#[],args,[]⟩).memory :=
 (LaidIn.of_run (l:=g9) [4,5,3,2,1] 8 Rz Rz Rz Rz).met
end Go.Proofs.YtpbnfjdkdfombaaGreatDoor
set_option maxHeartbeats 40000000
namespace Go.Proofs.YtpbnfjdkdfombaaGreatDoor
open Go.Proofs.Tryz
open Go.ChangeShapes Go.WideShapes Go.ChangeAt Go.RowKit
open Go.ChangeMaps (open_string shut_string)
def xQ(k:IntKind)(w:H)(a:Option Addr)(len cap:Nat)(zs:List Int):Prop :=
 (a=none/\len=0/\cap=0/\zs=[]) \/
 ∃x,a=some x/\len<=cap/\cap<=maxLen/\zs.length=cap/\(∀i,i<zs.length->w.cell? (x.add i)=some (.int k (zs.getD i 0)))/\∀ n∈zs,(Lit.int k n).wf=true
theorem xQ.sl{k:IntKind}{w:H}{a:Option Addr}{len cap:Nat}{zs:List Int}(h:xQ k w a len cap zs):Sl w.heap.size w (.slice a len cap) ((zs.take len).map (Value.int k)):=by
 rcases h with⟨rfl,rfl,rfl,rfl⟩|⟨x,rfl,hl,hm,hz,hcell,hwz⟩
 ·exact Sl.nil
 have hlen:((zs.take len).map (Value.int k)).length=len:=by rw[ay,aD];omega
 refine⟨cap,M0,hm,?_⟩;by_cases h0:len=0
 ·subst h0
  exact .inl ⟨Oc,_,rfl⟩
 obtain⟨b,off,spot⟩:=x;have i:=hcell 0 M0;have hspot:spot=none:=by simpa[Addr.add]using World.cell?_spot i
 subst hspot;refine .inr ⟨b,off,?_,by rw[hlen],λj l=>?_⟩
 ·have c:w.cell? ⟨b,off,none⟩=some (.int k (zs.getD 0 0)):=by simpa[Addr.add]using i
  rcases cI b w.heap.size with f|d
  ·exact f
  simp[World.cell?,Array.getElem?_eq_none d]at c
 rw[hlen]at l;have:=hcell j M0;rw[addr_add]at this;rw[this];have e:j<zs.length:=M0;simp[List.getD_eq_getElem?_getD,List.getElem?_eq_getElem e]
theorem a5M{n:Int}(h:(Lit.int .u8 n).wf=true):0<=n/\n<256:=by
 simp[Lit.wf,IntKind.min,IntKind.max,IntKind.signed,IntKind.bits]at h;omega
theorem xQ.bytes{w:H}{a:Option Addr}{len cap:Nat}{zs:List Int}(h:xQ .u8 w a len cap zs):∃ l:O,Sl w.heap.size w (.slice a len cap) (Lib.byteCells l):=by
 have f:=h.sl;refine⟨(zs.take len).map λz=>UInt8.ofNat z.toNat,?_⟩
 have e:Lib.byteCells ((zs.take len).map λz=>UInt8.ofNat z.toNat)=(zs.take len).map (Value.int .u8):=by
  unfold Lib.byteCells;rw[lu];refine jJ λz i=>?_;have c:z∈zs:=Bj i;rcases h with⟨_,_,_,rfl⟩|⟨x,rfl,hl,hm,hz2,hcell,d⟩
  ·simp at c
  have:=a5M (d z c);simp only[Function.comp,Value.int.injEq,true_and,fB];omega
 rw[e];exact f
end Go.Proofs.YtpbnfjdkdfombaaGreatDoor
set_option maxHeartbeats 40000000
namespace Go.Proofs.YtpbnfjdkdfombaaGreatDoor
open Go.Proofs.Tryz
open Go.RowKit
set_option maxRecDepth 10000
section
variable {H':Type} {enc:TypeId×Z->H'} {w:H}
def Tr(enc:TypeId×Z->H')(w:H)(t:TypeId)(cs:List Z):Prop:=∃ fuel x,DataW.trod enc prog w 0 (λ_=>true) true fuel t cs=some x
theorem MB{t:TypeId}{cs:List Z}(c:prog.underlying t=some .string)(h:Tr enc w t cs):∃ l:O,cs=[S l]:=by
 obtain⟨fuel,x,h⟩:=h;obtain⟨s,rfl,_,_⟩:=DataW.trod_string c h;exact⟨ls s,by rw[S,kt]⟩
theorem a01{t:TypeId}{k:IntKind}{cs:List Z}(c:prog.underlying t=some (.int k))(h:Tr enc w t cs):∃ n,cs=[.int k n]/\(Lit.int k n).wf=true:=by
 obtain⟨fuel,x,h⟩:=h;obtain⟨n,rfl,_,hw⟩:=DataW.trod_int c h;exact⟨n,rfl,hw⟩
theorem Sn{t:TypeId}{fs:Array Field}{cs:List Z}(e:prog.underlying t=some (.struct fs))(h:Tr enc w t cs) :
  cs.length=prog.cellsOf t/\∀ (i:Nat) (f:Field),fs[i]? = some f->Tr enc w f.type ((cs.drop f.offset).take (prog.cellsOf f.type)):=by
 obtain⟨fuel,x,h⟩:=h;obtain⟨xs,n,_,_,Y,I,d⟩:=DataW.trod_struct e h;refine⟨Y,λi f c=>?_⟩;have hi:i<xs.length:=by rw[I];exact(bw.1 c).1
 exact⟨n,xs[i],by rw[d i f c,aG hi]⟩
theorem sZ{α:Type}{Q:Nat->α->Prop}:∀ n,(∀i,i<n->∃ b,Q i b)->∃ l:List α,l.length=n/\∀ i (h:i<l.length),Q i l[i]
 |0,_=>⟨[],rfl,λi h=>by simp at h⟩
 |n+1,h=>by
  obtain⟨l,Y,I⟩:=sZ n (λi hi=>h i M0);obtain⟨b,U⟩:=h n M0;refine⟨l++[b],by simp[Y],λi hi=>?_⟩;by_cases c:i<l.length
  ·rw[List.getElem_append_left c];exact I i c
  have:i=n:=by rw[ae]at hi;simp at hi;omega
  subst this;rw[a2P M0]
  simpa[Y]using U
theorem So{t e:TypeId}{cs:List Z}(q:prog.underlying t=some (.slice e))(h:Tr enc w t cs) :
  cs=[.slice none 0 0]\/∃ (a:Addr) (len cap:Nat),cs=[.slice (some a) len cap]/\len<=cap/\cap<=maxLen /\
   ∀i,i<len->∃ ds:List Z,ds.length=prog.cellsOf e/\(∀j,j<prog.cellsOf e->w.cell? ((a.add (i*prog.cellsOf e)).add j)=ds[j]?)/\Tr enc w e ds:=by
 obtain⟨fuel,x,h⟩:=h;rcases DataW.trod_slice q h with⟨Y,_⟩|⟨a,len,cap,elems,rest,n,_,Y,_,_,I,f,h4,k,_,_⟩
 ·exact .inl Y
 refine .inr ⟨a,len,cap,Y,I,f,λi hi=>?_⟩;have:=k i hi;rw[aG M0]at this;obtain⟨ds,c,d⟩:=Option.bind_eq_some_iff.1 this;obtain⟨_,m,l⟩:=World.cells?_some c;exact⟨ds,m,l,n,_,d⟩
theorem Ua{a:Addr}{v:Z}(h:w.cell? (a.add 0)=some v):∃ b o,a=⟨b,o,none⟩/\b<w.heap.size:=by
 have e:a.add 0=a:=by simp[Addr.add]
 rw[e]at h;obtain⟨b,o,spot⟩:=a;have hspot:spot=none:=World.cell?_spot h;subst hspot;refine⟨b,o,rfl,?_⟩;rcases cI b w.heap.size with d|c
 ·exact d
 simp[World.cell?,Array.getElem?_eq_none c]at h
end
end Go.Proofs.YtpbnfjdkdfombaaGreatDoor
set_option maxHeartbeats 40000000
namespace Go.Proofs.YtpbnfjdkdfombaaGreatDoor
open Go.Proofs.Tryz
open Go.RowKit
set_option maxRecDepth 10000
section
variable {H':Type} {enc:TypeId×Z->H'} {w:H}
theorem Zh:prog.cellsOf 9=1/\prog.cellsOf 29=1/\prog.cellsOf 30=8/\prog.cellsOf 32=11/\prog.cellsOf 34=23/\prog.cellsOf 48=25/\prog.cellsOf 44=2:=by
 refine⟨?_,?_,?_,?_,?_,?_,?_⟩ <;>kernel_rfl
theorem Oq:prog.cellsOf 3=1/\prog.cellsOf 28=1/\prog.cellsOf 4=1/\prog.cellsOf 22=1/\prog.cellsOf 42=1:=by
 refine⟨?_,?_,?_,?_,?_⟩ <;>kernel_rfl
theorem A3{cs:List Z}(h:Tr enc w 22 cs):∃ v l,cs=[v]/\Sl w.heap.size w v (List.map S l):=by
 rcases So underlying22 h with rfl|⟨a,len,cap,rfl,Y,I,f⟩
 ·exact⟨_,[],rfl,Sl.nil⟩
 rw[Zh.1]at f
 have n:∀ i,i<len->∃ b:O,w.cell? (a.add i)=some (S b):=by
  intro i hi;obtain⟨ds,k,q,d⟩:=f i hi;obtain⟨b,rfl⟩:=MB underlying9 d;have:=q 0 M0;rw[b5v]at this;refine⟨b,?_⟩;have e:(a.add i).add 0=a.add i:=by simp[Addr.add]
  rw[e]at this;exact this
 obtain⟨l,k,m⟩:=sZ len n;refine⟨_,l,rfl,cap,by rw[ay];omega,I,?_⟩;by_cases h0:len=0
 ·left
  have:l=[]:=az M0;subst this;exact⟨rfl,some a,by rw[h0]⟩
 right
 obtain⟨b,o,rfl,U⟩:=Ua (m 0 M0);refine⟨b,o,U,by rw[ay,k],λj r=>?_⟩;have c:j<l.length:=by simpa using r
 have:=m j c;rw[addr_add]at this;rw[this];simp
end
end Go.Proofs.YtpbnfjdkdfombaaGreatDoor
set_option maxHeartbeats 40000000
namespace Go.Proofs.YtpbnfjdkdfombaaGreatDoor
open Go.Proofs.Tryz
open Go.RowKit
set_option maxRecDepth 10000
section
variable {H':Type} {enc:TypeId×Z->H'} {w:H}
theorem Ot:prog.cellsOf 24=4:=Rz
theorem b0r{cs:List Z}(h:Tr enc w 24 cs):∃ sv hv tv p,cs=[sv,hv,tv,Value.int .i64 (qh.most p)]/\BB w sv hv tv p:=by
 obtain⟨i,c⟩:=Sn underlying24 h;rw[Ot]at i;have f0:Tr enc w 22 ((cs.drop 0).take (prog.cellsOf 22)):=c 0 _ rfl;have f1:Tr enc w 22 ((cs.drop 1).take (prog.cellsOf 22)):=c 1 _ rfl;have f2:Tr enc w 22 ((cs.drop 2).take (prog.cellsOf 22)):=c 2 _ rfl;have f3:Tr enc w 3 ((cs.drop 3).take (prog.cellsOf 3)):=c 3 _ rfl;rw[Oq.2.2.2.1]at f0 f1 f2;rw[Oq.1]at f3
 match cs,i with
 | [a0,a1,a2,a3],_ =>
  simp only[List.drop,List.take]at f0 f1 f2 f3;obtain⟨sv,j,e0,h0⟩:=A3 f0;obtain⟨hv,k,d,Y⟩:=A3 f1;obtain⟨tv,l,e,I⟩:=A3 f2;obtain⟨m,f,_⟩:=a01 underlying3 f3;refine⟨sv,hv,tv,⟨j,k,l,m⟩,?_,⟨h0,Y,I⟩⟩;simp only[List.cons.injEq,and_true]at e0 d e f;subst e0 d e f;rfl
end
