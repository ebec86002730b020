/- Joined texts. -/
import Derived.Lib.SlBytesConst
import Derived.Test.YthfkicfjlljjiaaGreatDoorGRdsK
set_option maxHeartbeats 40000000
namespace Go.Proofs.YthfkicfjlljjiaaGreatDoor
open Tryz
open Go.RowKit
set_option maxRecDepth 10000
variable{W' W0:H}{b1 g0 gr:Nat}
theorem a0l{A wv:Z}{i:eu}(h:i.url.host.six.length=8):(bN A wv i)[24]? = some wv:=by
 unfold bN;rw[dx,dB (by rw[oF h];omega),oF h];rfl
theorem a0k{A wv:Z}{i:eu}{j:Nat}{x:Z}(h:(cu A i.url)[j]? = some x):(bN A wv i)[1+j]? = some x:=by
 have a:=(bh.1 h).1;rw[Nat.add_comm];unfold bN;rw[dx,cX a];exact h
theorem k7(C:Array Z)(n:Nat)(w:H):(convert 46 46 (.slice (some ⟨w.heap.size,0,none⟩) n n)).run prog (w.alloc (.cells C 5))=.ok (.slice (some ⟨w.heap.size,0,none⟩) n n) (w.alloc (.cells C 5 (C.size,C.size+1))) :=
 Lib.run_convert_bytes_const w _ _ C n n underlying46 underlying5
theorem lh(l:O)(w:H)(d:l.length<=maxLen)(fr:Nat×Nat):Sl (w.alloc (.cells (Lib.byteCells l).toArray 5 fr)).heap.size (w.alloc (.cells (Lib.byteCells l).toArray 5 fr)) (.slice (some ⟨w.heap.size,0,none⟩) l.length l.length) (Lib.byteCells l):=by
 refine⟨l.length,by rw[Lib.byteCells_length];exact ag _,d,.inr ⟨w.heap.size,0,Oc,by rw[Lib.byteCells_length],λj c=>?_⟩⟩;have a:(w.alloc (.cells (Lib.byteCells l).toArray 5 fr)).heap[w.heap.size]? = some (.cells (Lib.byteCells l).toArray 5 fr):=heap_alloc_new w _;unfold World.cell?;simp only[a,bM];rw[cf,aG c];rfl
section
variable {ops:Array Oper} {rest:List Oper} {o o2:Oper} {a:Act} {w:H} {Q:Exit->Act->H->Prop}
end

def a3s(W:H)(g0 g1 gr:Nat)(v:Z)(m:Nat):Prop :=
 (m=0/\∃ a c,v=.slice a 0 c)\/∃ b c cs T,v=.slice (some ⟨b,0,none⟩) m c/\(b≠gr/\b<g1)/\g0<=b/\W.heap[b]? = some (.cells cs T (0,0))/\m<=cs.size
theorem a3s.set{W:H}{g1:Nat}{v:Z}{m:Nat}(h:a3s W g0 g1 gr v m)(b j:Nat)(x:Z){cs:Array Z}{T:TypeId}(U:W.heap[b]? = some (.cells cs T (0,0))):a3s (W.setCell ⟨b,j,none⟩ x) g0 g1 gr v m:=by
 rcases h with h|⟨b1,c,f,i,e,Y,I,d,g⟩
 ·exact .inl h
 by_cases he:b1=b
 ·subst he
  rw[U]at d;injection d with d
  injection d with k l h7
  subst k l;exact .inr ⟨b1,c,cs.setIfInBounds j x,T,e,Y,I,heap_setCell_same W b1 j cs T x U,by simpa using g⟩
 exact .inr ⟨b1,c,f,i,e,Y,I,by rw[heap_setCell_other W ⟨b,j,none⟩ b1 x he];exact d,g⟩
theorem a3s.of{W:H}{base:Nat}{v:Z}{l:List O}(h:W.ownsRow base 9 1 v l.length (Strs l))(f:g0<=base)(c:v.ownBlock=none\/v.ownBlock≠some gr):a3s W g0 W.heap.size gr v l.length:=by
 rcases h.2 with⟨rfl,h0⟩|⟨g,cap,cur,e,U,hh,Y,I,d,_⟩
 ·exact .inl ⟨h0,none,0,rfl⟩
 refine .inr ⟨g,cap,cur,_,e,⟨?_,(bw.1 hh).1⟩,am f U,hh,by rw[d];omega⟩;rintro rfl;rw[e]at c;rcases c with c|c
 ·cases c
 exact c rfl
def b4k(W:H)(g0 g1 gr n:Nat):Prop:=∀ k,k<n->∃ A wv mp mw,W.cell? ⟨gr,k*25+19,none⟩=some A/\W.cell? ⟨gr,k*25+24,none⟩=some wv/\mp<=1024000000/\mw<=1024000000/\a3s W g0 g1 gr A mp/\a3s W g0 g1 gr wv mw
theorem b4k.set{W:H}{g1 n:Nat}(h:b4k W g0 g1 gr n)(b j:Nat)(x:Z){cs:Array Z}{T:TypeId}(U:W.heap[b]? = some (.cells cs T (0,0)))(c:b≠gr):b4k (W.setCell ⟨b,j,none⟩ x) g0 g1 gr n:=λk i=>by
 obtain⟨A,wv,mp,l,Y,I,d,e,f,g⟩:=h k i;exact⟨A,wv,mp,l,by rw[World.cell?_setCell_far W ⟨b,j,none⟩ _ x c];exact Y,by rw[World.cell?_setCell_far W ⟨b,j,none⟩ _ x c];exact I,d,e,f.set b j x U,g.set b j x U⟩
theorem b4k.below{W:H}{g1 n:Nat}(h:b4k W g0 g1 gr n)(U:r7 W W')(f:gr<W.heap.size):b4k W' g0 g1 gr n:=λk r=>by
 obtain⟨A,wv,mp,s,Y,I,i,j,l,q⟩:=h k r
 have key:∀ {v:Z} {m:Nat},a3s W g0 g1 gr v m->a3s W' g0 g1 gr v m:=λz=>by
  rcases z with z|⟨b1,c,d,g,e,t,z2,z3,z4⟩
  ·exact .inl z
  exact .inr ⟨b1,c,d,g,e,t,z2,(U.block b1 (bw.1 z3).1).trans z3,z4⟩
 exact⟨A,wv,mp,s,(U.cell (p:=⟨gr,_,none⟩) f).trans Y,(U.cell (p:=⟨gr,_,none⟩) f).trans I,i,j,key l,key q⟩
theorem b4k.of{W:H}{base:Nat}{v:Z}{l:List eu}(c:fa W base v l)(h:l ≠ [])(u:∀ i∈l,i.url.path.length<=1024000000/\i.words.length<=1024000000):∃ g n,v=.slice (some ⟨g,0,none⟩) l.length n/\base<=g/\g<W.heap.size/\b4k W base W.heap.size g l.length:=by
 have c0:=c;obtain⟨d,rfl,I,m⟩:=c;rcases I.2 with⟨rfl,h0⟩|⟨g,cap,cur,rfl,r,hh,hnc,hcm,hsz,htk⟩
 ·exact absurd (by rw[az h0];rfl) h
 refine⟨g,cap,by rw[ay],r,(bw.1 hh).1,λk t=>?_⟩;have e:k<d.length:=by simpa using t
 have hp:=m d[k] (be e);have f:=u d[k].2 (dt.mpr ⟨_,be e,rfl⟩)
 have hcell:∀ j x,j<25->(bN d[k].1.1 d[k].1.2 d[k].2)[j]? = some x->W.cell? ⟨g,k*25+j,none⟩=some x:=λj x s X=>by
  have q:=z8 ipc 25 d (λp hp=>lL (m p hp).six) k j e s;have:=I.cells (g:=g) rfl (k*25+j) x (q.trans X);rw[addr_add,bM]at this;exact this
 have y:=ry d[k].1.1 d[k].2.url hp.six;refine⟨d[k].1.1,d[k].1.2,_,_,hcell 19 _ M0 (a0k (j:=18) (by have:=y.path;rw[cf]at this;exact this)),hcell 24 _ M0 (a0l hp.six),f.1,f.2,a3s.of hp.path (ag _) ?_,a3s.of hp.words (ag _) ?_⟩
 ·exact own_ne hp.path I P8
 exact own_ne hp.words I P8
theorem a3s.val{W:H}{g1:Nat}{v:Z}{m:Nat}(h:a3s W g0 g1 gr v m):∃ a c,v=.slice a m c:=by
 rcases h with⟨rfl,h⟩|⟨b,c,_,_,e,_⟩
 ·exact h
 exact⟨_,_,e⟩
theorem a3s.at{W:H}{g1:Nat}{a:Option Addr}{c m j:Nat}(h:a3s W g0 g1 gr (.slice a m c) m)(f:j<m):∃ b cs T,a=some ⟨b,0,none⟩/\(b≠gr/\b<g1)/\g0<=b/\W.heap[b]? = some (.cells cs T (0,0))/\j<cs.size:=by
 rcases h with⟨rfl,_⟩|⟨b,c',cs,T,e,Y,I,d,h4⟩
 ·exact absurd f (cL _)
 injection e with e _ _
 exact⟨b,cs,T,e,Y,I,d,M0⟩
structure ZW (w5:H) (q gr n:Nat) (cs:Array Z) (W:H):Prop where
 b:r7 w5 W
 c:CB W q 50 cs
 z:b4k W w5.heap.size q gr n
theorem ZW.set{d W:H}{q n:Nat}{cs:Array Z}(h:ZW d q gr n cs W){b j:Nat}{x:Z}{e:Array Z}{T:TypeId}(U:W.heap[b]? = some (.cells e T (0,0)))(Y:b≠gr/\b<q)(I:d.heap.size<=b):ZW d q gr n cs (W.setCell ⟨b,j,none⟩ x) :=
 ⟨h.b.setCell I x,⟨by rw[heap_setCell_other W ⟨b,j,none⟩ q x (by show q≠b;omega)];exact h.c.a⟩,h.z.set b j x U Y.1⟩
section
variable {ops:Array Oper} {rest:List Oper} {o:Oper} {a:Act} {w:H} {Q:Exit->Act->H->Prop}
theorem c0j(c:o.guard=none)(x y:Operand)(f:o.op=.store 9 x y)(b j:Nat)(cs:Array Z)(T:TypeId)(U:w.heap[b]? = some (.cells cs T (0,0)))(e:j<cs.size)(s:ByteArray)(X:a.eval x=.pointer (some ⟨b,j,none⟩))(hy:a.eval y=.string s)
  (K:∀ d,d=w.setCell ⟨b,j,none⟩ (.string s)->wpList prog ops Q rest (a.put o.dst undef) d):wpList prog ops Q (o::rest) a w:=by
 refine wpList_plain c λ_ hK=>?_;unfold Oper.wp execOp;simp only[f,X,hy,Instr.storeAt,Instr.sureAddr,Sem.run_bind,Sem.run_pure,Result.andThen_ok,oz w b j _ T cs (.string s) U e bY.1 rfl];exact hK _ _ (K _ rfl)
end

def qt(W0 W:H)(G b1:Nat)(v:Z)(l:List eu):Prop:=∃ ps:List ((Z×Z)×eu),ps.map (·.2)=l/\W.ownsRow b1 55 25 v ps.length (ps.flatMap ipc)/\∀ p∈ps,mZ W0 G p
theorem qt.below{W:H}{G:Nat}{v:Z}{l:List eu}(c:qt W0 W G b1 v l)(h:r7 W W'):qt W0 W' G b1 v l:=by
 obtain⟨e,Y,I,d⟩:=c;exact⟨e,Y,own_below I h,d⟩
section
variable {ops:Array Oper} {rest:List Oper} {o:Oper} {a:Act} {w:H} {Q:Exit->Act->H->Prop}
theorem JH{W:H}(f:o.guard=none)(x y:Operand)(h:o.op=.store 50 x y)(v:Z)(d:O)(Y:v.oneCell'=true)(g:W=w.alloc (.cells (bD aI []) 50))(X:a.eval x=.pointer (some ⟨w.heap.size,0,none⟩))(hy:a.eval y=.agg (bD v d))
  (k:∀ e,OB w w.heap.size 50 (bD v d) e->wpList prog ops Q rest (a.put o.dst undef) e):wpList prog ops Q (o::rest) a W :=
 jG f _ x y h (bD v d) (bD aI []) mS rfl (all_oneCell_toArray (RI (d:=d) Y)) g X hy λe c b=>k e (OB.of c (ag _) b)
end

structure b6q (W0:H) (B:Nat) (p:(Z×Z)×eu):Prop where
 ok:gG p.2.url
 o1:p.1.1.oneCell'=true
 o2:p.1.2.oneCell'=true
 path:Sl B W0 p.1.1 (p.2.url.path.map S)
 words:Sl B W0 p.1.2 (p.2.words.map S)
def b3D(W0 W:H)(B b1:Nat)(v:Z)(l:List eu):Prop:=∃ ps:List ((Z×Z)×eu),ps.map (·.2)=l/\W.ownsRow b1 55 25 v ps.length (ps.flatMap ipc)/\∀ p∈ps,b6q W0 B p
theorem b3D.nil(W0 W:H)(B b1:Nat):b3D W0 W B b1 (.slice none 0 0) []:=⟨[],rfl,World.ownsRow_nil _ _ _ _,λp hp=>by cases hp⟩
theorem b3D.below{W:H}{B:Nat}{v:Z}{l:List eu}(c:b3D W0 W B b1 v l)(h:r7 W W'):b3D W0 W' B b1 v l:=by
 obtain⟨e,Y,I,d⟩:=c;exact⟨e,Y,own_below I h,d⟩
theorem b3D.tn{b:Nat}{W:H}{B:Nat}{v:Z}{l:List eu}(c:b3D W0 W B b1 v l)(h:Tn b W W')(U:b<b1):b3D W0 W' B b1 v l:=by
 obtain⟨e,Y,I,d⟩:=c;exact⟨e,Y,h.AO I U,d⟩
theorem b3D.len{W:H}{B:Nat}{v:Z}{l:List eu}(c:b3D W0 W B b1 v l):∃ a d,v=.slice a l.length d:=by
 obtain⟨ps,rfl,I,_⟩:=c;rw[ay];rcases I.2 with⟨rfl,h0⟩|⟨g,cap,cur,rfl,_⟩
 ·exact⟨none,0,by rw[h0]⟩
 exact⟨_,_,rfl⟩
theorem b3D.one'{W:H}{B:Nat}{v:Z}{l:List eu}(c:b3D W0 W B b1 v l):v.oneCell'=true:=by
 obtain⟨a,cp,rfl⟩:=c.len;rfl
theorem b3D.items{W:H}{B:Nat}{v:Z}{l:List eu}(c:b3D W0 W B b1 v l)(U:Below B W0 W)(q:B<=W.heap.size):Items W.heap.size W v l:=by
 obtain⟨d,rfl,I,n⟩:=c;rcases I.2 with⟨rfl,h0⟩|⟨g,cap,cur,rfl,hg,hh,m,hcm,hsz,htk⟩
 ·have:d=[]:=az h0
  subst this;exact⟨0,ag _,.inl ⟨rfl,none,rfl⟩⟩
 refine⟨cap,by rw[ay];exact m,.inr ⟨g,0,(bw.1 hh).1,by rw[ay],λk s=>?_⟩⟩;have e:k<d.length:=by simpa using s
 have hp:=n d[k] (be e);refine⟨d[k].1.1,d[k].1.2,λj x i=>?_,?_,?_,?_⟩
 ·rw[cU]at i
  have f:j<25:=by
   have:=(bh.1 i).1;rw[lL hp.ok.h.l]at this;exact this
  have r:=z8 ipc 25 d (λp hp=>lL (n p hp).ok.h.l) k j e f;have:=I.cells (g:=g) rfl (k*25+j) x (r.trans i);rw[addr_add,<-Nat.add_assoc]at this;exact this
 ·rw[cU];exact hp.ok
 ·rw[cU]
  exact(hp.path.below U).more q
 rw[cU];exact(hp.words.below U).more q
section
variable {ops:Array Oper} {rest:List Oper} {o:Oper} {a:Act} {w:H} {Q:Exit->Act->H->Prop}
theorem b7D(n:o.guard=none)(s x:Operand)(L:o.op=.call {callee:=.builtin .append,args:=#[s,x],argTypes:=#[48,48]})
  (W0:H) (B b1:Nat) {v A wv:Z} {l:List eu} {c:eu} (M:a.eval s=v) (hown:b3D W0 w B b1 v l) (hw:b6q W0 B ((A,wv),c)) (X:a.eval x=.slice (some ⟨w.heap.size,0,none⟩) 1 1)
  (g:l.length+1<=1000000000) (hbase:b1<=w.heap.size)
  (h:∀ f e,b3D W0 e B b1 f (l++[c])->Below b1 w e->wpList prog ops Q rest (a.put o.dst f) e) :
  wpList prog ops Q (o::rest) a (w.alloc (.cells (bC A wv c) 55)):=by
 obtain⟨i,hi,N,t,y⟩:=info_parts Lm;obtain⟨z,rfl,I,C⟩:=hown;rw[ay]at g;have d:Below w.heap.size w (w.alloc (.cells (bC A wv c) 55)):=(Below.refl _ _).alloc (ag _) _;refine wpList_append_own_at _ n s x _ L b1 55 i _ 25 240 underlying48 hi N t y r5 P8 v z.length _ M (I.alloc _) ⟨w.heap.size,0,none⟩ 1 1 (bN A wv c) X (by rw[lL hw.ok.h.l]) ?_ (Qh hw.o1 hw.o2) (by unfold maxLen;omega) M0 (am hbase d.size) ?_
 ·intro j u J
  rw[addr_add,bM];have q:(bC A wv c)[j]? = some u:=by rw[cf];exact J
  rw[World.cell?_alloc_mark];exact q
 intro f e r D _ _;refine h f e ⟨z++[((A,wv),c)],Oc,?_,?_⟩ ?_
 ·rw[ae,dL]
  simpa using r
 ·intro p hp
  rcases bO.mp hp with hp|hp
  ·exact C p hp
  obtain rfl:p=((A,wv),c):=by simpa using hp
  exact hw
 exact((d.m hbase)).grown D (am hbase d.size) (λk K=>(I.lt k K).1)
end

section
variable {ops:Array Oper} {rest:List Oper} {o:Oper} {a:Act} {w:H} {Q:Exit->Act->H->Prop}
theorem Oh(d:Region.wanted o (yielded ops a.tmps)=true)(y:Operand)(f:o.op=.buildSlice 22 1 #[(0,y)])(x:O)(hy:a.eval y=S x)
  (h:∀ b c,r7 w c->Sl c.heap.size c (.slice (some ⟨b,0,none⟩) 1 1) ([x].map S)->wpList prog ops Q rest (a.put o.dst (.slice (some ⟨b,0,none⟩) 1 1)) c):wpList prog ops Q (o::rest) a w:=by
 unfold wpList;rw[if_pos d];refine .inl ?_;unfold Oper.wp execOp;have e:(#[(0,y)]:Array (Nat×Operand)).map (λ(i,x)=>(i,a.eval x))=#[(0,S x)]:=by simp[hy]
 simp only[f,Sem.run_bind,Sem.run_pure,Result.andThen_ok,e,Xt];exact h _ _ ((Below.refl _ _).alloc (ag _) _) (Wl w x)
theorem Ac(d:Region.wanted o (yielded ops a.tmps)=true)(x:Operand)(e:o.op=.load 34 x)(b k:Nat)(A:Z)(u:Url)(c:u.host.six.length=8)(X:a.eval x=.pointer (some ⟨b,k,none⟩))(f:w.rangeAt b k (cu A u))
  (K:wpList prog ops Q rest (a.put o.dst (.agg (ai A u))) w):wpList prog ops Q (o::rest) a w :=
 nj d (.agg (ai A u)) (gU 34 x e b k (cu A u) _ underlying34 rfl (by rw[iJ,oF c]) X f) K
end

theorem Xh:zK U0:=⟨⟨⟨P8,P8,rfl,P8⟩,P8⟩,⟨P8,P8,P8,P8,P8,P8,P8,P8⟩,P8,P8⟩

theorem Pq:∀ p∈CA,p.2.length<=2*p.1.length:=P8
theorem Kv:∀ p∈rU,p.2.length<=2*p.1.length:=P8
theorem Ol:∀ p∈nd,2<=p.1.length:=P8
theorem BV(s:O):(jm s).length<=s.length:=by
 unfold jm
 split
 ·rw[fY];omega
 exact ag _
theorem LP{s t:O}(h:fT s=some t):t.length<=2*s.length:=by
 have hc:=BV s;unfold fT at h
 split at h
 ·next t' e =>
  cases h;have:=Pq _ (lO e);dsimp only at this;omega
 split at h
 ·unfold iX at h
  split at h
  ·next U =>
   have e:=bj h;subst e;have h4:=nX ((nN (jm s):Nat):Int);unfold nN at U;cases c:look nd (jm s)with
   |none=>rw[c]at U;exact absurd rfl U
   |some v =>
    have:=Ol _ (lO c);dsimp only at this;omega
  have:=Kv _ (lO h);dsimp only at this;omega
 cases h
theorem yV(s:O):∀ n,(iC s n).1.length<=2*(iC s n).2
 |0=>by show([38]:O).length<=2*1;decide
 |n+1=>by
  have c:=yV s n;unfold iC
  split
  ·exact c
  next t e =>
  split
  ·exact(by decide:([38]:O).length<=2*1)
  have h:=LP e;have I:((s.drop 1).take (n+1)).length<=n+1:=by rw[aD];omega
  show t.length<=2*(n+2);omega
theorem VK(s:O)(b:Int)(f:Nat)(hf:2<=f):(Er s b f).1.length<=2*(Er s b f).2:=by
 unfold Er
 split
 ·exact(by decide:([38]:O).length<=2*1)
 show(iH _).length<=2*(f+_+_)
 have:(iH (mB b 0 (s.drop f)).1).length<=4:=by
  unfold iH
  split
  ·exact nX _
  exact nX _
 omega
theorem RK(s:O):(gX s).1.length<=2*(gX s).2:=by
 unfold gX
 split
 ·unfold vY
  split <;>exact VK _ _ _ P8
 exact yV _ _
theorem zZ:∀ (n:Nat) (s:O),s.length<=n->(pl s).length<=2*s.length
 |0,s,h=>by
  obtain rfl:s=[]:=dy.mp M0;exact ag _
 |n+1,[],_=>ag _
 |n+1,x::r,h=>by
  rw[ah]at h;by_cases X:x=38
  ·subst X
   have Y:=wA (s:=38::r) Oc;have I:=RK (38::r);have c:=zZ n ((38::r).drop (gX (38::r)).2) (by rw[aj,ah];omega);rw[aj,ah]at c;rw[IG,ae,ah];rw[ah]at Y;omega
  have c:=zZ n r M0;rw[Cl r X,ah,ah];omega
theorem WC{l:O}(h:l.length<=300):(jw l).length<=5400:=by
 have Y:=xk l;have I:=nT _ (dY l) (ag _);have h3:=zZ _ (kz (dY l)) (ag _);unfold jw;omega
def sM:List dk->Nat
 | []=>0
 |c::l=>(c.url.length+1)+sM l
theorem OS{p:UInt8->Bool}:∀ {l:O},l.dropWhile p=[]->∀ x∈l,p x=true
 | [],_,x,h=>by cases h
 |y::r,e,x,h=>by
  by_cases hy:p y=true
  ·rw[aQ hy]at e
   rcases aK.mp h with rfl|h
   ·exact hy
   exact OS e x h
  rw[aX hy]at e;cases e
theorem Sq{x:UInt8}{r:O}(h:x≠44):gM (x::r) ≠ []:=by
 intro e;unfold gM at e;have c:=List.reverse_eq_nil_iff.mp e;have:=OS c x Oc;exact h (by simpa using this)
theorem Sp{u:O}(h:nQ u=true):(gM u).length+1<=u.length:=by
 unfold nQ at h;have h:=of_decide_eq_true h
 obtain⟨q,rfl⟩:∃ q,u=q++[44]:=by
  cases hu:u with
  |nil=>rw[hu]at h;cases h
  |cons a l =>
   have c:u ≠ []:=by rw[hu];simp
   have e:=ip c;rw[TV c]at h;rw[<-hu];exact⟨u.dropLast,by rw[<-Option.some.inj h];exact e.symm⟩
 unfold gM;rw[fc,jK];show((44::q.reverse).dropWhile _).length+1<=_;rw[aQ P8];have:=(ce (l:=q.reverse) λx=>decide (x=44)).length_le;rw[fc]at this;rw[ae,dq];omega
theorem Wr(t:O):(jt t).url.length+1+(jt t).rest.length<=t.length\/((jt t).rest=[]/\(jt t).url.length<=t.length):=by
 have hl:(t.takeWhile fU).length+(t.dropWhile fU).length=t.length:=by rw[<-List.length_append,ez]
 unfold jt
 split
 ·next h =>
  have:=Sp h
  left
  show(gM _).length+1+(t.dropWhile fU).length<=_;omega
 have hw:(j7 (t.dropWhile fU)).2.length<=(t.dropWhile fU).length:=Hh _ _;cases hd:(j7 (t.dropWhile fU)).2 with
 |nil =>
  right
  exact⟨rfl,by show(t.takeWhile fU).length<=_;omega⟩
 |cons y r =>
  rw[hd,ah]at hw
  left
  show(t.takeWhile fU).length+1+r.length<=_;omega
theorem Mu:∀ k,gL k []=[]
 |0=>rfl
 |k+1=>by rw[gL];rfl
theorem NF(q:Stp)(l:List dk):sM (tU q l)<=(q.url.length+1)+sM l:=by
 unfold tU
 split
 ·omega
 exact ag _
theorem zg:∀ (k:Nat) (s:O),sM (gL k s)<=s.length+1
 |0,s=>aL _
 |k+1,s=>by
  rw[gL]
  split
  ·exact aL _
  have Y:=gJ fS s;have I:=NF (jt (s.dropWhile fS)) (gL k (jt (s.dropWhile fS)).rest);rcases Wr (s.dropWhile fS)with c|⟨c,h4⟩
  ·have ih:=zg k (jt (s.dropWhile fS)).rest
   omega
  rw[c,Mu]at I ⊢;have:sM []=0:=rfl;omega
theorem Wn(s:O):sM (jF s)<=s.length+1:=zg _ s
theorem Wq{s:O}(h:s.dropWhile fS ≠ []):1<=(jt (s.dropWhile fS)).url.length:=by
 obtain⟨x,r,e,X⟩:=dw_head h;rw[e];have d:=Oo X
 have c:x≠44:=by
  rintro rfl;exact absurd X P8
 unfold jt;rw[bJ d]
 split
 ·exact b3A λh0=>Sq c (az h0)
 show 1<=(x::r.takeWhile fU).length;rw[ah];omega
theorem zf:∀ (k:Nat) (s:O),∀c∈gL k s,1<=c.url.length
 |0,_,c,h=>by cases h
 |k+1,s,c,h=>by
  rw[gL]at h
  split at h
  ·cases h
  next d =>
  rcases uM h with⟨e,_⟩|h
  ·rw[e];exact Wq d
  exact zf k _ c h
theorem JJ:∀ {l:List dk},(∀c∈l,1<=c.url.length)->2*l.length<=sM l
 | [],_=>ag _
 |c::l,h=>by
  have Y:=h c fA;have I:=JJ λd hd=>h d (cN _ hd);have:sM (c::l)=(c.url.length+1)+sM l:=rfl;rw[ah];omega
theorem JN{u:Url}{L M:Nat}(h:Ul L M u):u.host.name.length<=96*L+8:=by
 rcases h.host with⟨n,sp,hn,hh⟩|h
 ·have key:∀ g,sS n sp g->g.name.length<=96*L+8:=by
   intro g e;cases e with
   |six a h8 ha _=>exact aL _
   |name m e _ hd hn2 U he =>
    have Y:=rf _ n (ag _);have I:=rx (signs (nJ n));have h3:=lR _ (nJ n) (ag _);have h4:=Cg hd;show m.length<=_;omega
   |four m e _ h=>exact aL _
   |empty e h=>exact aL _
   |a0z e _ h U =>
    have:=VR n;show(dD 0 n).length<=_;omega
  exact key _ (hkind hh)
 rw[h];exact aL _
theorem AQ{L M:Nat}{u:Url}(h:Ul L M u)(ok:gG u)(hM:3*L+3<=M):(dA u true).length<=112*L+M+130:=by
 have h0:=JN h;have I:=oQ u.host ok.h (96*L+8) h0;have h3:=sC u ok;have a1:=h.usr;have a2:=h.er;have a3:=h.flat;have a4:=h.path;have a5:=h.q;have a6:=h.f;have a7:=h.aJ
 have hw:(uf u).length<=6*L+2:=by
  unfold uf
  split
  ·simp
  split <;>simp only[ae,ah,aO] <;>omega
 have ha:(ld u).length<=102*L+108:=by
  unfold ld Fq
  split
  ·split <;>simp
  simp only[ae,ah,aO];omega
 have hp:(nh u).length<=M:=by
  unfold nh
  split <;>omega
 have hq:(qF u).length<=3*L+1:=by
  unfold qF
  split
  ·rw[ae,dq];omega
  simp
 have hf:(Nc u true).length<=3*L+1:=by
  unfold Nc
  split
  ·rw[ae,dq];omega
  simp
 unfold dA;simp only[ae,ah,aO];omega
theorem SF{L M:Nat}{u:Url}(h:Ul L M u)(hL:L<=1000000)(hM:M<=1024000000):nc u:=by
 have h0:=JN h;exact⟨by have:=h.aJ;omega,by have:=h.usr;omega,by have:=h.er;omega,M0,by have:=h.flat;omega,by have:=h.path;omega,by have:=h.q;omega,by have:=h.f;omega⟩
def lj:List eu->Nat
 | []=>0
 |i::l=>((eS i).length+2)+lj l
theorem Cv:∀ l:List eu,(l.flatMap λy=>[44,32]++eS y).length=lj l
 | []=>rfl
 |i::l=>by
  have:=Cv l;simp only[cM,ae,ah,aO]at this ⊢;have e:lj (i::l)=((eS i).length+2)+lj l:=rfl;omega
theorem QM(l:List eu):(ij l).length<=lj l:=by
 cases l with
 |nil=>exact ag _
 |cons i l =>
  show(eS i++_).length<=((eS i).length+2)+lj l;rw[ae,Cv];omega
theorem V0{kind:Int}{b:Url}{s:O}:(mg kind b s).delay.length<=s.length+1:=by
 have key:∀ r,Dx s=some r->r.delay.length<=s.length+1:=by
  intro r h;have Y:=gJ blE s;have I:=sO pG (bT s);have h3:=gJ z48 ((bT s).takeWhile pG)
  have c:(mz ((bT s).takeWhile pG)).length<=s.length+1:=by
   unfold mz;have:(bT s).length<=s.length:=Y
   split
   ·show 1<=_;omega
   omega
  unfold Dx rfG at h
  split at h
  ·cases h
  unfold rfT at h
  split at h
  ·cases h;exact c
  split at h
  ·cases h
  split at h <;>(cases h;exact c)
 unfold mg
 split
 ·exact aL _
 split
 ·exact aL _
 split
 ·split
  ·exact aL _
  next r d=>exact key r d
 exact aL _

def Sel(kind:Int)(p:eu->Bool):Prop:=∀ i,p i=true->pH kind i=true
theorem JD{kind:Int}{p:eu->Bool}(hp:Sel kind p):∀ l:List eu,lj (l.filter p)<=lj (pI kind l)
 | []=>ag _
 |i::l=>by
  have c:=JD hp l;unfold pI at c ⊢;cases h:p i with
  |true =>
   rw[aU h,aU (hp i h)];show((eS i).length+2)+lj _<=((eS i).length+2)+lj _;omega
  |false =>
   rw[aZ (by rw[h];simp)];cases I:pH kind i with
   |true =>
    rw[aU I];show _<=((eS i).length+2)+lj _;omega
   |false =>
    rw[aZ (by rw[I];simp)];exact c

structure qh where
 schemes:List O
 hosts:List O
 types:List O
 most:Int
def mD(h:gF)(a:O):Bool:=decide (a=lJ h)||decide (a=[42])||(Lib.hasPrefix a [46]&&decide (h.kind=2)&&decide (a.length<h.name.length)&&Lib.hasSuffix h.name a)
def mC(p:qh)(h:gF):Bool:=decide (h.kind=0\/h.kind=1)||p.hosts.any (mD h)
def Sw(p:qh)(u:Url):Bool:=match BY u with
 |some t=>decide (t∈p.types)
 |none=>false
def uP(p:qh)(u:Url):Bool:=decide (u.aJ∈p.schemes)&&mC p u.host&&(decide (u.aJ≠qI)||Sw p u)
def jO(p:qh)(kind:Int)(i:eu):Bool:=i.right&&uP p i.url&&(decide (kind≠2)||ti (dA i.url true))
theorem Ro(p:qh)(kind:Int):Sel kind (jO p kind):=λi h=>by
 unfold jO at h;unfold pH;rw[ct,ct]at h;rw[h.1.1,h.2];rfl
structure Vrd where
 kind:Int
 why:Int
 o:O
def iu(why:Int):Vrd:=⟨2,why,[]⟩
def P4(a b:gF):Bool:=decide (a.kind=b.kind)&&decide (a.name=b.name)&&decide (a.four=b.four)&&decide (a.six=b.six)
def D9(a b:Url):Bool:=decide (a.aJ=b.aJ/\a.usr=b.usr/\a.er=b.er)&&P4 a.host b.host&&decide (a.bz=b.bz/\a.port=b.port/\a.opq=b.opq/\a.flat=b.flat)&&decide (a.path=b.path)&&decide (a.bZ=b.bZ/\a.q=b.q/\a.cg=b.cg/\a.f=b.f)
theorem MK(a b:Url):D9 a b=true ↔ a=b:=by
 constructor
 ·intro h
  unfold D9 P4 at h;simp only[ct,decide_eq_true_eq]at h;obtain⟨⟨⟨⟨Y,I⟩,h3⟩,h4⟩,h5⟩:=h;obtain⟨a1,au,ap,⟨ak,an,af,a6⟩,ahp,apo,ao,afl,apa,ahq,aq,ahf,aff⟩:=a;obtain⟨E,bu,bp,⟨bk,bn,bf,b6⟩,bhp,bpo,bo,bfl,bpa,bhq,bq,bhf,bff⟩:=b;simp_all
 rintro rfl;unfold D9 P4;simp
def oy(b:Url):Bool:=match eF (dA b true)with
 |none=>false
 |some v=>D9 v b
theorem p7(b:Url):oy b=true ↔ eF (dA b true)=some b:=by
 unfold oy;cases h:eF (dA b true)with
 |none=>simp
 |some v =>
  show D9 v b=true ↔ some v=some b;rw[MK];simp
def dQ(p:qh)(b:Url)(el name raw:O):Vrd :=
 if gA el name=0 then⟨1,0,[]⟩
 else if p.most<(raw.length:Int)then iu 1
 else if oy b=false then iu 2
 else if(mg (gA el name) b (jw raw)).items.any (·.right)=false then iu 3
 else if(mg (gA el name) b (jw raw)).items.filter (jO p (gA el name))=[]then iu 4
 else if p.most<((kK (gA el name) ((mg (gA el name) b (jw raw)).items.filter (jO p (gA el name))) (mg (gA el name) b (jw raw)).delay).length:Int)then iu 1
 else⟨3,0,kK (gA el name) ((mg (gA el name) b (jw raw)).items.filter (jO p (gA el name))) (mg (gA el name) b (jw raw)).delay⟩
def wL:qh:=⟨[[104,116,116,112]],[[42]],[],60⟩
theorem a5t:dQ wL jP [65] [104,114,101,102] [32,74,97,118,97,83,99,114,105,112,116,58,120]=iu 4:=Rz
theorem a5u:dQ wL jP [97] [104,114,101,102] [46,46,47,99,39,38,35,120,50,54,59,100]=⟨3,0,[104,116,116,112,58,47,47,104,47,99,38,35,51,57,59,38,97,109,112,59,100]⟩:=Rz
theorem a5v:dQ wL jP [105,109,103] [115,114,99,115,101,116] [120,58,121,32,49,120,44,32,113,32,50,120,44,104,116,116,112,58,47,47,101,58,102]=⟨3,0,[104,116,116,112,58,47,47,104,47,97,47,113,32,50,120]⟩:=Rz
theorem a5w:dQ wL jP [109,101,116,97] [99,111,110,116,101,110,116] [48,55,59,85,82,76,61,39,122,39]=⟨3,0,[55,59,32,117,114,108,61,104,116,116,112,58,47,47,104,47,97,47,122]⟩:=Rz
theorem a5x:dQ wL jP [97] [116,105,116,108,101] [120]=⟨1,0,[]⟩:=Rz
theorem a5y:dQ wL jP [97] [104,114,101,102] (List.replicate 61 0)=iu 1:=Rz
theorem a5z:dQ wL U0 [97] [104,114,101,102] [120]=iu 2:=Rz
theorem a5A:dQ wL jP [97] [104,114,101,102] [104,116,116,112,58,47,47,101,58,102]=iu 3:=Rz
theorem a5B:dQ wL jP [97] [104,114,101,102] (List.replicate 16 39)=iu 1:=Rz

def b4z(h:gF)(a:O):Bool:=Lib.hasPrefix a [46]&&decide (h.kind=2)&&decide (a.length<h.name.length)&&Lib.hasSuffix h.name a
theorem b47(h:gF)(l:List O):l.any (mD h)=(decide ([42]∈l)||decide (lJ h∈l)||l.any (b4z h)):=by
 rw[bX,kj,kj,m8,m8,decide_eq_true_eq,decide_eq_true_eq];constructor
 ·rintro⟨a,c,hp⟩
  unfold mD at hp;rw[kj,kj,decide_eq_true_eq,decide_eq_true_eq]at hp;rcases hp with(rfl|rfl)|hp
  ·exact .inl (.inr c)
  ·exact .inl (.inl c)
  exact .inr ⟨a,c,hp⟩
 rintro((c|c)|⟨a,c,hp⟩)
 iterate 2
  ·exact⟨_,c,by unfold mD;simp⟩
 refine⟨a,c,?_⟩;unfold mD;unfold b4z at hp;rw[hp,b3G]
theorem b7g(h:gF)(a:O):b4z h a=(decide (h.kind=2)&&(decide (a.length<h.name.length)&&(match a with | []=>false|x::_=>decide (x=46))&&decide (h.name.drop (h.name.length-a.length)=a))):=by
 unfold b4z
 have e:Lib.hasPrefix a [46]=(match a with | []=>false|x::_=>decide (x=46)):=by
  cases a with
  |nil=>rfl
  |cons x r =>
   show(decide (46=x)&&Lib.hasPrefix r [])=decide (x=46);cases r <;>simp[Lib.hasPrefix,eq_comm]
 rw[e];by_cases d:h.kind=2
 ·by_cases c:a.length<h.name.length
  ·rw[decide_eq_true d,decide_eq_true c]
   have f:Lib.hasSuffix h.name a=decide (h.name.drop (h.name.length-a.length)=a):=by
    rw[<-Lib.hasSuffix_of_drop,decide_eq_true (xp c),Ev,bX,decide_eq_true_eq,beq_iff_eq]
   rw[f];simp
  rw[decide_eq_false c];simp
 rw[decide_eq_false d];simp

theorem b7I{b u:Url}{t s:O}{T:Nat}(hT:4<=T/\T<=10000)(ht:t.length<=T)(U:eF t=some b)(h:kF b s=some u):Ul (T+s.length) (6*(T+s.length)+6) u:=by
 have h0:=oG (L:=T+s.length) M0 M0 U;have c:=SD (L:=T+s.length) M0 M0 h0 h;exact c.more M0
theorem sr{b u:Url}{t s:O}{T:Nat}(c:4<=T/\T<=10000)(d:t.length<=T)(U:eF t=some b)(h:kF b s=some u):(dA u true).length<=118*s.length+(118*T+136):=by
 have:=AQ (b7I c d U h) (qQ (wy (kG U) h)) M0;omega
theorem Ln{b u:Url}{t s:O}{T:Nat}(d:4<=T/\T<=10000)(e:t.length<=T)(hs:s.length<=100000)(U:eF t=some b)(h:kF b s=some u):zK u:=by
 have c:=b7I d e U h;exact⟨qQ (wy (kG U) h),SF c M0 M0,Sx c M0⟩
theorem vL{b:Url}{t s:O}{T:Nat}(c:4<=T/\T<=10000)(e:t.length<=T)(d:s.length<=100000)(U:eF t=some b)(ws:List O):zK (ef b s ws).url:=by
 unfold ef;cases h:kF b s with
 |none=>exact Xh
 |some u=>exact Ln c e d U h
theorem V2{kind:Int}{b:Url}{t s:O}{T:Nat}(e:4<=T/\T<=10000)(d:t.length<=T)(f:s.length<=100000)(U:eF t=some b):∀ i∈(mg kind b s).items,zK i.url:=by
 intro i hi;unfold mg at hi
 split at hi
 ·obtain rfl:i=ef b s []:=by simpa using hi
  exact vL e d f U _
 split at hi
 ·obtain⟨c,g,rfl⟩:=dt.mp hi
  exact vL e d (am ((oV s).2 c g).1 f) U _
 split at hi
 ·split at hi
  ·cases hi
  next r h =>
  dsimp only at hi
  split at hi
  ·obtain rfl:i=ef b r.url []:=by simpa using hi
   exact vL e d (am (sD h) f) U _
  obtain rfl:i=⟨true,b,[]⟩:=by simpa using hi
  have h0:=oG (L:=T) d M0 U;exact⟨qQ (kG U),SF h0 M0 M0,Sx h0 M0⟩
 cases hi
theorem yG{kind:Int}{b:Url}{t:O}{W:Nat}{T:Nat}(g:4<=T/\T<=10000)(i:t.length<=T)(U:eF t=some b):∀ {l:List dk},(∀c∈l,(du c.words).length<=W) ->
  lj (pI kind (l.map λc=>ef b c.url c.words))<=118*sM l+(118*T+138+W)*l.length
 | [],_=>ag _
 |c::l,h=>by
  have p:=yG (kind:=kind) g i U λd hd=>h d (cN _ hd);have hw:=h c fA;have e:sM (c::l)=(c.url.length+1)+sM l:=rfl;have k:(118*T+138+W)*(l.length+1)=(118*T+138+W)*l.length+(118*T+138+W):=c0N _ _;rw[e,dh,ah,k];unfold pI at p ⊢;cases f:pH kind (ef b c.url c.words)with
  |false =>
   rw[aZ (by rw[f];simp)];omega
  |true =>
   rw[aU f]
   have n:(ef b c.url c.words).right=true:=by
    unfold pH at f;rw[ct]at f;exact f.1
   obtain⟨u,hu,hi⟩:=yE n;have hs:=sr g i U hu;have j:lj (ef b c.url c.words::(l.map λc=>ef b c.url c.words).filter (pH kind))=((eS (ef b c.url c.words)).length+2)+lj ((l.map λc=>ef b c.url c.words).filter (pH kind)):=rfl
   have m:(eS (ef b c.url c.words)).length=(dA u true).length+(du c.words).length:=by
    rw[hi];unfold eS;rw[ae]
   rw[j,m];omega
theorem Di{kind:Int}{b:Url}{t s:O}{i:eu}{n:Nat}{T:Nat}(f:4<=T/\T<=10000)(d:t.length<=T)(U:eF t=some b)(hs:s.length<=n)(hi:i=ef b s []\/i=⟨true,b,[]⟩):lj (pI kind [i])<=118*n+(118*T+138):=by
 unfold pI;cases c:pH kind i with
 |false =>
  rw[aZ (by rw[c];simp)];exact aL _
 |true =>
  rw[aU c]
  have g:i.right=true:=by
   unfold pH at c;rw[ct]at c;exact c.1
  have key:∀ u:Url,(dA u true).length<=118*n+(118*T+136)->lj [(⟨true,u,[]⟩:eu)]<=118*n+(118*T+138):=λu hu=>by
   show((eS ⟨true,u,[]⟩).length+2)+0<=_;unfold eS;rw[ae];show(dA u true).length+0+2+0<=_;omega
  rcases hi with rfl|rfl
  ·obtain⟨u,hu,e⟩:=yE g
   have:=sr f d U hu;show lj [ef b s []]<=_;rw[e];exact key u M0
  have h0:=AQ ((oG (L:=T) d M0 U)) (qQ (kG U)) M0;exact key b M0
theorem LA{kind:Int}{b:Url}{t s:O}{T:Nat}(f:4<=T/\T<=10000)(g:t.length<=T)(U:eF t=some b)(j:s.length<=5400):lj (pI kind (mg kind b s).items)<=4000000000/\(kind≠2->lj (pI kind (mg kind b s).items)<=2000000):=by
 have hnil:lj (pI kind [])=0:=rfl;unfold mg
 split
 ·have:=Di (kind:=kind) (n:=5400) f g U j (.inl rfl)
  dsimp only;exact⟨M0,λ_=>M0⟩
 split
 ·next I =>
  refine⟨?_,λh=>absurd I h⟩
  have Y:=yG (kind:=kind) (W:=16203) f g U (l:=jF s) λc e=>by
   obtain⟨d,hd,_⟩:=wO s.length s c e;have p:=Zm hd;have hw:=Hm (n:=5400) λw hw=>am (DP s.length s c e w hw) j;have:5401*c.words.length<=5401*3:=pj _ p;omega
  have h3:=Wn s;have k:=JJ λc e=>zf s.length s c e
  have m:(jF s).length<=2700:=by
   have:2*(jF s).length<=sM (jF s):=k;omega
  have h6:(118*T+138+16203)*(jF s).length<=(118*T+138+16203)*2700:=pj _ m;show lj (pI kind ((jF s).map λc=>ef b c.url c.words))<=_;omega
 split
 ·split
  ·exact⟨aL _,λ_=>aL _⟩
  next r q =>
  have hl:=sD q
  have:=Di (kind:=kind) (s:=r.url) (n:=5400) (i:=if r.has=true then ef b r.url []else⟨true,b,[]⟩) f g U M0 (by
   split
   ·exact .inl rfl
   exact .inr rfl)
  exact⟨by dsimp only;omega,λ_=>by dsimp only;omega⟩
 exact⟨aL _,λ_=>aL _⟩

theorem Wg{u:Url}(h:EN u)(ok:gG u):(dA u true).length<=10000:=by
 have h0:=h.name;have I:=oQ u.host ok.h 500 h0;have h3:=sC u ok;have a1:=h.usr;have a2:=h.er;have a3:=h.flat;have a4:=h.path;have a5:=h.q;have a6:=h.f;have a7:=h.aJ;have a8:=h.tot
 have hw:(uf u).length<=1002:=by
  unfold uf
  split
  ·simp
  split <;>simp only[ae,ah,aO] <;>omega
 have ha:(ld u).length<=1700:=by
  unfold ld Fq
  split
  ·split <;>simp
  simp only[ae,ah,aO];omega
 have hp:(nh u).length<=3050:=by
  unfold nh
  split
  ·omega
  rw[sw];omega
 have hq:(qF u).length<=1001:=by
  unfold qF
  split
  ·rw[ae,dq];omega
  simp
 have hf:(Nc u true).length<=1001:=by
  unfold Nc
  split
  ·rw[ae,dq];omega
  simp
 unfold dA;simp only[ae,ah,aO];omega
theorem a0P(u:Url):(dA u false).length<=(dA u true).length:=by
 have:(Nc u false).length=0:=by unfold Nc;simp
 unfold dA;simp only[ae];omega
theorem JI{x:O}:∀ {l:List O},x∈l->x.length<=(l.map List.length).sum
 |y::l,X=>by
  rw[dh,List.sum_cons];rcases aK.mp X with rfl|X
  ·omega
  have:=JI X;omega
theorem UD{u:Url}(h:EN u)(ok:gG u):zK u:=⟨ok,h.sm,by have:=h.path;omega,λx X=>by
 have Y:=h.tot;have I:=JI X;omega⟩
theorem V1{kind:Int}{b:Url}{t s:O}{T:Nat}(f:4<=T/\T<=10000)(e:t.length<=T)(d:s.length<=100000)(U:eF t=some b):∀ i∈(mg kind b s).items,(dA i.url true).length<=1000000000:=by
 have key:∀ (z:O) (ws:List O),z.length<=100000->(dA (ef b z ws).url true).length<=1000000000:=λz ws hz=>by
  unfold ef;cases h:kF b z with
  |none=>show(dA U0 true).length<=1000000000;decide
  |some u=>exact am (sr f e U h) M0
 intro i hi;unfold mg at hi
 split at hi
 ·obtain rfl:i=ef b s []:=by simpa using hi
  exact key _ _ d
 split at hi
 ·obtain⟨c,g,rfl⟩:=dt.mp hi
  exact key _ _ (am ((oV s).2 c g).1 d)
 split at hi
 ·split at hi
  ·cases hi
  next r j =>
  split at hi
  ·obtain rfl:i=ef b r.url []:=by simpa using hi
   exact key _ _ (am (sD j) d)
  obtain rfl:i=⟨true,b,[]⟩:=by simpa using hi
  exact am (AQ (oG (L:=T) e M0 U) (qQ (kG U)) (ag _)) M0
 cases hi
theorem a0I{kind:Int}{b:Url}{s:O}:(mg kind b s).items.length<=s.length+1:=by
 unfold mg
 split
 ·exact Nat.le_add_left _ _
 split
 ·show((jF s).map _).length<=_
  rw[ay];exact lw (oV s).1
 split
 ·split
  ·exact aL _
  split <;>exact Nat.le_add_left _ _
 exact aL _
theorem a0J{kind:Int}{b:Url}{s:O}:∀ i∈(mg kind b s).items,i.words.length<=s.length:=by
 have key:∀ (z:O) (ws:List O),(ef b z ws).words.length<=ws.length:=λz ws=>by
  unfold ef;cases kF b z with
  |none=>exact ag _
  |some u=>exact ag _
 intro i hi;unfold mg at hi
 split at hi
 ·obtain rfl:i=ef b s []:=by simpa using hi
  exact am (key _ _) (aL _)
 split at hi
 ·obtain⟨c,d,rfl⟩:=dt.mp hi
  exact am (key _ _) ((oV s).2 c d).2
 split at hi
 ·split at hi
  ·cases hi
  next r hr =>
  split at hi
  ·obtain rfl:i=ef b r.url []:=by simpa using hi
   exact am (key _ _) (aL _)
  obtain rfl:i=⟨true,b,[]⟩:=by simpa using hi
  exact aL _
 cases hi
structure Tj (p:qh) (kind:Int) (b:Url) (l:O):Prop where
 v:TX kind l
 u:∀ i∈(mg kind b (jw l)).items,zK i.url/\(dA i.url false).length<=1000000000/\i.words.length<=1024000000
 n:(mg kind b (jw l)).items.length<=900000000
 m:(ij ((mg kind b (jw l)).items.filter (jO p kind))).length<=150000000000
 d:(mg kind b (jw l)).delay.length<=100000
theorem UK(p:qh){kind:Int}{b:Url}{t l:O}{T:Nat}(c:4<=T/\T<=10000)(e:t.length<=T)(U:eF t=some b)(g:TX kind l)(f:(jw l).length<=5400):Tj p kind b l where
 v:=g
 u:=λi hi=>⟨V2 c e M0 U i hi,am (a0P _) (V1 c e M0 U i hi),am (a0J i hi) M0⟩
 n:=am a0I M0
 m:=by
  have Y:=(LA (kind:=kind) c e U f).1;have I:=JD (Ro p kind) (mg kind b (jw l)).items;have h3:=QM ((mg kind b (jw l)).items.filter (jO p kind));omega
 d:=am V0 M0
theorem vw(p:qh){kind:Int}{b:Url}{t l:O}{T:Nat}(c:4<=T/\T<=10000)(e:t.length<=T)(U:eF t=some b)(d:l.length<=300):Tj p kind b l :=
 UK p c e U (WD kind M0) (WC d)

theorem b75(w:H)(v1 v2:Z)(d:O):∃ W,(w.alloc (.cells (bD v1 d) 50)).alloc (.cells (bD v2 d) 50)=W/\r7 w W/\CB W w.heap.size 50 (bD v1 d)/\CB W (w.heap.size+1) 50 (bD v2 d):=by
 have X:=CB.new w 50 (bD v1 d);have U:=(Below.refl w.heap.size w).alloc (ag _) (.cells (bD v1 d) 50);obtain⟨w1,e⟩:=V (w.alloc (.cells (bD v1 d) 50));have f:w1.heap.size=w.heap.size+1:=by rw[e];simp
 rw[<-e]at X U ⊢;have hy:=CB.new w1 50 (bD v2 d);have c:=(Below.refl w1.heap.size w1).alloc (ag _) (.cells (bD v2 d) 50);rw[f]at hy;exact⟨_,rfl,dw U c,X.keep c,hy⟩
section
variable {ops:Array Oper} {rest:List Oper} {o:Oper} {a:Act} {w:H} {Q:Exit->Act->H->Prop}
theorem b6I(c:o.guard=none)(x:Operand)(e:o.op=.load 55 x)(b k:Nat)(A wv:Z)(it:eu)(d:it.url.host.six.length=8)(f:w.rangeAt b k (bN A wv it))(X:a.eval x=.pointer (some ⟨b,k,none⟩))(K:wpList prog ops Q rest (a.put o.dst (.agg (bC A wv it))) w):wpList prog ops Q (o::rest) a w :=
 ll c (.agg (bC A wv it)) (gU 55 x e b k (bN A wv it) _ underlying55 rfl (by rw[lL d];exact mG) X f) K
end

theorem b6s(r:Rd)(v1 v2:Z)(w:H)(Y:Items w.heap.size w v1 r.items)(I:Items w.heap.size w v2 r.items)(hl:r.items.length<=1000000000) :
  bF prog 20 #[.agg (bD v1 r.delay),.agg (bD v2 r.delay)] w (.bool true):=by
 obtain⟨W,hW,U,k1,k2⟩:=b75 w v1 v2 r.delay;obtain⟨a1,c1,L⟩:=lM Y;obtain⟨a2,c2,e2⟩:=lM I;have HW:=F hW;have BW:=F U;have K1:=F k1;have K2:=F k2;have R1:=F Y;have R2:=F I;obtain⟨N,hN⟩:=V (r.items.length);have HN:=F hN;rw[<-hN]at L e2 hl;obtain⟨db,B⟩:=V (E r.delay)
 have v:=F<|λ(d:H) (c:r7 W d)=>(show d.cell? ⟨w.heap.size,0,none⟩=some (.slice a1 N c1)/\d.cell? ⟨w.heap.size,1,none⟩=some (.string db)/\d.cell? ⟨w.heap.size+1,0,none⟩=some (.slice a2 N c2)/\d.cell? ⟨w.heap.size+1,1,none⟩=some (.string db)from
  ⟨by rw[<-L];exact(k1.keep c).aE rfl,by rw[B];exact(k1.keep c).aE rfl,by rw[<-e2];exact(k2.keep c).aE rfl,by rw[B];exact(k2.keep c).aE rfl⟩)
 have E1:=F L;have E2:=F e2;clear hW U k1 k2 Y I hN B L e2;go_enter func20,ntmps20
 go_upto_region 1 with fail
 rw[HW.o];obtain⟨f1,f2,f3,f4⟩:=v.o W (Below.refl _ _);go_wp2_with fail;clear f1 f2 f3 f4
 go_loopw [4,5,6,7] (λ_ iv _ _ wr=>∃ k:Nat,k<=N/\iv=.int .i64 k/\Hid (r7 W wr)) (λ_ i _ _ _=>N-(intOf i).toNat)
 exact⟨0,aL _,rfl,F (Below.refl _ _)⟩
 obtain⟨k,hk,rfl,f⟩:=hrel;obtain⟨f1,f2,f3,f4⟩:=v.o wr f.o;by_cases hkN:k<N
 ·have D:k<r.items.length:=by have:=HN.o;omega
  have K:=F<|BW.o.trans (f.o.m BW.o.size);have y:=R1.o.below K.o;have z:=R2.o.below K.o;rw[E1.o]at y;rw[E2.o]at z;obtain⟨g1,o1,ea,l1,M,wa,ca,ya,q,Qb⟩:=oh y k D;obtain⟨g2,o2,eb,l2,P,wb,cb,yb,s,t⟩:=oh z k D;clear y z;obtain⟨it,hit⟩:=V (r.items[k]);rw[<-hit]at ca cb ya q Qb s t;have n:=F ya.h.l;have RA:=F (show wr.rangeAt g1 (o1+k*25) (bN M wa it)from λj x C=>ca j x C);have hcl:∀ {d:H} {g j:Nat} {x:Z},r7 wr d->wr.cell? ⟨g,j,none⟩=some x->d.cell? ⟨g,j,none⟩=some x:=λU hc=>(U.cell (p:=⟨_,_,none⟩) (World.block_lt_of_cell? _ _ hc)).trans hc;have RB:=F<|λ(d:H) (c:r7 wr d)=>(show d.rangeAt g2 (o2+k*25) (bN P wb it)from λj x C=>hcl c (cb j x C));have PA:=F<|q.more K.o.size;have PB:=F<|s.more K.o.size;have WA:=F<|Qb.more K.o.size;have WB:=F<|t.more K.o.size;have OA:=F<|And.intro (rq q) (rq Qb);have OB1:=F<|And.intro (rq s) (rq t);subst ea;subst eb;clear ca cb ya yb q Qb s t l1 l2 hit D hcl
  go_upto_region 7 with(first|((with_reducible apply bS);refine b6I rfl (.tmp 32) rfl g1 (o1+k*25) M wa it n.o RA.o (by simp[Act.eval]) ?_;refine aM rfl 55 rfl _ _ (Ia _) ?_;refine a4Z rfl (.tmp 6) (.tmp 33) rfl M wa it n.o OA.o.1 OA.o.2 rfl rfl rfl ?_;intro w4 i4;have I4:=F i4;clear i4))
  have R:=F I4.o.bL;have F4:=F<|f.o.trans (R.o.m f.o.size);obtain⟨q6,hq6⟩:=V (wr.heap.size);rw[<-hq6]at I4 ⊢;clear f1 f2 f3 f4 RA hq6;obtain⟨f1,f2,f3,f4⟩:=v.o w4 F4.o
  go_upto_region 8 with(first|((with_reducible apply bS);refine b6I rfl (.tmp 37) rfl g2 (o2+k*25) P wb it n.o (RB.o _ R.o) (by simp[Act.eval,Act.put]) ?_;refine aM rfl 55 rfl _ _ (Ia _) ?_;refine a4Z rfl (.tmp 7) (.tmp 38) rfl P wb it n.o OB1.o.1 OB1.o.2 rfl rfl rfl ?_;intro w5 i5;have T:=F i5;clear i5))
  have C6:=F<|I4.o.cb.keep T.o.bL;have u:=F<|R.o.trans (T.o.bL.m R.o.size);have F5:=F<|f.o.trans (u.o.m f.o.size);obtain⟨q7,hq7⟩:=V (w4.heap.size);rw[<-hq7]at T ⊢;have C7:=F T.o.cb;obtain⟨rt,J⟩:=V (it.right);have e0:w5.cell? ⟨q6,0,none⟩=some (.bool rt):=by rw[J];exact C6.o.aE rfl
  have L:w5.cell? ⟨q7,0,none⟩=some (.bool rt):=by rw[J];exact C7.o.aE rfl
  have RU6:=F (show w5.rangeAt q6 1 (cu M it.url)from C6.o.range (λj x C=>by rw[cf];exact a0k C));have RU7:=F (show w5.rangeAt q7 1 (cu P it.url)from C7.o.range (λj x C=>by rw[cf];exact a0k C));have MX:=F<|(PA.o.below u.o).more u.o.size;have HPB:=F<|(PB.o.below u.o).more u.o.size;clear f1 f2 f3 f4 RB I4 T hq7 J PA PB R F4
  go_wp2_with (first|((with_reducible apply bS);first|refine Ac r5 (.tmp 45) rfl q6 1 M it.url n.o rfl RU6.o ?_|refine Ac r5 (.tmp 47) rfl q7 1 P it.url n.o rfl RU7.o ?_)|(go_at_call 51;refine(b58 it.url M P _ n.o MX.o HPB.o).m ?_;rintro e w6 ⟨rfl,U⟩;have D6:=F<|u.o.trans (U.m u.o.size);have e2:w6.cell? ⟨q6,24,none⟩=some wa:=(C6.o.keep U).aE (by rw[cf];exact a0l n.o);have e3:w6.cell? ⟨q7,24,none⟩=some wb:=(C7.o.keep U).aE (by rw[cf];exact a0l n.o);clear U e0 L)|(go_at_call 52;refine(b3s it.words it.words wa wb _ _ _ (WA.o.below D6.o) (WB.o.below D6.o)).m ?_;rintro e w7 ⟨rfl,U⟩;rw[show decide (it.words=it.words)=true from decide_eq_true rfl];have D7:=F<|D6.o.trans (U.m D6.o.size);clear U))
  go_roundw
  exact⟨k+1,M0,by go_num,F (f.o.trans (D7.o.m f.o.size))⟩
  simp[intOf];omega
 obtain rfl:k=N:=M0;go_wp2_with fail;go_ret;exact⟨rfl,BW.o.trans (f.o.m BW.o.size)⟩

theorem GL(i:eu)(A wv:Z)(w:H):bF prog 42 #[.agg (bC A wv i)] w (.bool i.right):=by
  have h:=F (show(bC A wv i)[0]? = some (.bool i.right)from rfl);have f:=F<|CB.new w 55 (bC A wv i);have e:=F<|(Below.refl w.heap.size w).alloc (ag _) (.cells (bC A wv i) 55);obtain⟨w1,c⟩:=V (w.alloc (.cells (bC A wv i) 55));rw[<-c]at f e;have d:=F c;obtain⟨r,g⟩:=V (i.right);rw[<-g]at h ⊢;clear c g;go_enter func42,ntmps42
  go_upto_region 1 with fail
  rw[<-d.o]
  go_wp2_with (first|((with_reducible apply bS);refine vA rfl (.tmp 3) rfl w.heap.size 55 (bC A wv i) f.o 0 (.bool r) h.o rfl ?_))
  go_ret;exact⟨rfl,e.o⟩
theorem KZ(l:List eu)(v:Z)(w:H)(u:Items w.heap.size w v l)(R:∀ i∈l,i.url.host.six.length=8)(hn:l.length<=900000000) :
    Calls prog 75 #[v,.func (Fn.func 42) #[] #[]] w λe w'=>∃ z,e=.returned (.int .i64 z)/\-1<=z/\(0<=z ↔ l.any (·.right)=true)/\r7 w w':=by
  obtain⟨N,C⟩:=V (l.length);have L:=F C;have hNb:N<=900000000:=M0;obtain⟨av,cc,rfl⟩:=lM u;rw[<-C]at u ⊢;have HI:=F u;have T:=F R;clear C u hn R;go_enter func75,ntmps75;go_wp2_with fail
  go_loopw [5,8] (λ_ iv wr=>∃ k:Nat,k<=N/\iv=.int .i64 k/\Hid (r7 w wr)/\Hid (∀j (c:j<l.length),j<k->l[j].right=false)) (λ_ i _=>N-(intOf i).toNat)
  exact⟨0,aL _,rfl,F (Below.refl _ _),F (λj c h=>M0)⟩
  obtain⟨k,hk,rfl,s,M⟩:=hrel;by_cases hkN:k<N
  · have f:k<l.length:=by have:=L.o;omega
    obtain⟨it,hit⟩:=V (l[k]);have hm:it∈l:=by rw[hit];exact be f
    obtain⟨b,o,rfl,n,A,wv,J,y1,y2,y3⟩:=oh HI.o k f;rw[<-hit]at J;have q:b<w.heap.size:=n;have K:=F (show wr.rangeAt b (o+k*25) (bN A wv it)from λj x c=>(s.o.cell (p:=⟨b,o+k*25+j,none⟩) q).trans (J j x c));have P:=F<|T.o it hm;obtain⟨r,d⟩:=V (it.right);have g:=F (show ∀W,bF prog 42 #[.agg (bC A wv it)] W (.bool r)from λW=>by rw[d];exact GL it A wv W)
    have TD:=F (show r=false->∀ j (c:j<l.length),j<k+1->l[j].right=false from λe j c hjk=>by
      by_cases t:j=k
      · subst t;rw[<-hit,<-d];exact e
      exact M.o j c M0)
    have B:=F (show r=true->l.any (·.right)=true from λe=>m8.mpr ⟨it,hm,by rw[<-d];exact e⟩);clear y1 y2 y3 J hit hm d n q f;cases r with
    |true =>
      have HY:=F<|B.o rfl
      go_wp2_with (first|((with_reducible apply bS);refine lm r5 55 (.tmp 14) rfl b (o+k*25) rfl (bN A wv it) _ K.o underlying55 rfl (by rw[lL P.o];exact mG) ?_)|(go_at_call 42;refine(g.o _).m ?_;rintro e w5 ⟨rfl,U⟩;have y:=F U;clear U))
      go_ret;exact⟨k,rfl,M0,⟨λ_=>HY.o,λ_=>M0⟩,dw s.o y.o⟩
    |false =>
      have D:=F<|TD.o rfl
      go_wp2_with (first|((with_reducible apply bS);refine lm r5 55 (.tmp 14) rfl b (o+k*25) rfl (bN A wv it) _ K.o underlying55 rfl (by rw[lL P.o];exact mG) ?_)|(go_at_call 42;refine(g.o _).m ?_;rintro e w5 ⟨rfl,U⟩;have y:=F U;clear U))
      go_roundw
      exact⟨k+1,M0,by go_num,F (dw s.o y.o),D⟩
      simp[intOf];omega
  obtain rfl:k=N:=M0
  have HF:=F (show ¬l.any (·.right)=true from λe=>by
    obtain⟨x,X,t⟩:=m8.mp e;obtain⟨j,c,rfl⟩:=cC X;rw[M.o j c (by rw[L.o];exact c)]at t;cases t)
  go_wp2_with fail;go_ret;exact⟨-1,rfl,M0,⟨λh=>M0,λh=>absurd h HF.o⟩,s.o⟩
theorem PH(l:List eu)(v:Z)(w:H)(g:Items w.heap.size w v l)(f:∀ i∈l,i.url.host.six.length=8)(j:l.length<=900000000) :
    bF prog 41 #[v,.func (Fn.func 42) #[] #[]] w (.bool (l.any (·.right))):=by
  have d:=F<|KZ l v w g f j;obtain⟨r,k⟩:=V (l.any (·.right));rw[<-k]at d ⊢;clear g f j k;go_enter func41,ntmps41
  go_upto_region 1 with fail
  cases r with
  |true =>
    go_wp2_with (first|(go_at_call 75;refine d.o.m ?_;rintro e p ⟨z,rfl,Y,I,U⟩;have c:=F U;have n:(0:Int)<=z:=I.mpr rfl;clear U I))
    go_ret;exact⟨eA (by first|(simp;done)|(simp;omega)),c.o⟩
  |false =>
    go_wp2_with (first
      | (go_at_call 75;refine d.o.m ?_;rintro e p ⟨z,rfl,Y,I,U⟩;have c:=F U;have n:¬ (0:Int)<=z:=λh=>by have:=I.mp h;cases this
         clear U I))
    go_ret;exact⟨eA (by first|(simp;done)|(simp;omega)),c.o⟩
abbrev bH(k y:Int)(o:ByteArray):Array Z:=#[.int .i64 k,.int .i64 y,.string o]
abbrev vF(x:Vrd):Array Z:=bH x.kind x.why (E x.o)
abbrev e0:ByteArray:=⟨#[]⟩
theorem xi:(prog.info? 44).map (·.size)=some 3:=Rz
theorem tV(w:H):(Instr.alloc 44 true (Value.tuple #[])).run prog w=.ok (.pointer (some ⟨w.heap.size,0,none⟩)) (w.alloc (.cells (bH 0 0 e0) 44)):=Rz
theorem Od:∀ w,(Instr.build 44 #[(0,.int .i64 1)]).run prog w=.ok (.agg (bH 1 0 e0)) w:=λw=>Rz
theorem xZ(y:Int):∀ w,(Instr.build 44 #[(0,.int .i64 2),(1,.int .i64 y)]).run prog w=.ok (.agg (bH 2 y e0)) w:=λw=>Rz
theorem Ip(o:ByteArray):∀ w,(Instr.build 44 #[(0,.int .i64 3),(2,.string o)]).run prog w=.ok (.agg (bH 3 0 o)) w:=λw=>Rz
theorem SG(k y:Int)(o:ByteArray):∀ u ∈ [Value.int .i64 k,.int .i64 y,.string o],u.oneCell'=true:=by
  intro u hu;simp only[aK,cV,or_false]at hu;rcases hu with rfl|rfl|rfl <;>rfl
section
variable {ops:Array Oper} {rest:List Oper} {o:Oper} {a:Act} {w:H} {Q:Exit->Act->H->Prop}
theorem Dn(d:o.guard=none)(x y:Operand)(f:o.op=.store 44 x y)(w0:H)(b:Nat){cs:Array Z}(c:cs.size=3)(i:OB w0 b 44 cs w)(k z:Int)(t:ByteArray)(X:a.eval x=.pointer (some ⟨b,0,none⟩))(hy:a.eval y=.agg (bH k z t))
    (K:∀ e,OB w0 b 44 (bH k z t) e->Tn b w e->wpList prog ops Q rest (a.put o.dst undef) e):wpList prog ops Q (o::rest) a w :=
  rh d _ x y f w0 b 44 cs i 0 [.int .i64 k,.int .i64 z,.string t] X hy (by rw[c];exact ag 3) xi (SG k z t) (bH k z t) (by
    match cs,c with
    |⟨[c0,c1,c2]⟩,_=>rfl) K
end
theorem Ea{f:Func}{k:Nat}(e:f.results=#[.cell k 44]){tmps:Array Z}{w0 w2:H}{b:Nat}{x y:Int}{t:ByteArray}{Post:Ending->H->Prop}(g:tmps.getD k undef=.pointer (some ⟨b,0,none⟩))
    (i:OB w0 b 44 (bH x y t) w2) (d:Post (.returned (.agg (bH x y t))) w2) :
    bodyPost prog f Post Exit.ret {tmps:=tmps,defers:=[]} w2:=by
  have c:tmps[k]?.getD undef=.pointer (some ⟨b,0,none⟩):=by simpa using g
  have h:=i.load (P:=prog) 44 _ underlying44 rfl xi;refine bodyPost_ret (v:=.agg (bH x y t)) ?_ rfl d;simp[results,e,asAddr,c,h]
theorem nW(y:Int)(w:H):bF prog 38 #[.int .i64 y] w (.agg (bH 2 y e0)):=by
  have e:=OB.fresh w 44 (bH 0 0 e0);obtain⟨w1,c⟩:=V (w.alloc (.cells (bH 0 0 e0) 44));rw[<-c]at e;have g:=F e;have d:=F c;clear c e;go_enter func38,ntmps38
  go_upto_region 1 with(first|((with_reducible apply bS);refine aM rfl 44 rfl _ _ (tV _) ?_))
  rw[<-d.o]
  go_wp2_with (first|((with_reducible apply bS);refine Dn rfl (.tmp 2) (.tmp 4) rfl w w.heap.size rfl g.o 2 y e0 rfl rfl ?_;intro w2 i2 t2;have f:=F i2;clear i2 t2))
  exact Ea results38 rfl f.o ⟨rfl,f.o.bL⟩
