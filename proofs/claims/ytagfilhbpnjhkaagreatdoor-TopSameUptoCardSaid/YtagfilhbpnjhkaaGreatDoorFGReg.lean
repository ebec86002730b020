import Derived.Lib.OthersKept
import Derived.Test.YtagfilhbpnjhkaaGreatDoorFGTextH
import Derived.Test.YtagfilhbpnjhkaaGreatDoorFGPunJ
import Derived.Great.Ranges
import Derived.Deep.MidRow
import Derived.Deep.RegionHeld3
set_option maxRecDepth 10000
set_option maxHeartbeats 0
namespace Go.Proofs.Q
open Tryz Go.RowKit
def sF:Nat->O->List Int
 |0,_=>[]
 |_,[]=>[]
 |f+1,x::r=>((dr (x::r)).1:Int)::sF f ((x::r).drop (dr (x::r)).2)
def runes(l:O):List Int:=sF l.length l
theorem oA(f:Nat)(x:UInt8)(r:O):sF (f+1) (x::r)=((dr (x::r)).1:Int)::sF f ((x::r).drop (dr (x::r)).2):=rfl
theorem tI:∀(f g:Nat) (l:O),l.length<=f->l.length<=g->sF f l=sF g l
 |0,g,l,h,_=>by
  obtain rfl:l=[]:=az M0;cases g <;>rfl
 |f+1,0,l,_,h=>by
  obtain rfl:l=[]:=az M0;rfl
 |f+1,g+1,[],_,_=>rfl
 |f+1,g+1,x::r,h,a=>by
  have hn:=nV x r;rw[cz]at h a;have hd:((x::r).drop (dr (x::r)).2).length<=r.length:=by rw[aj,cz];omega
  rw[oA,oA,tI f g _ M0 M0]
theorem Mn:runes []=[]:=rfl
theorem wF(x:UInt8)(r:O):runes (x::r)=((dr (x::r)).1:Int)::runes ((x::r).drop (dr (x::r)).2):=by
 have hn:=nV x r;have hd:((x::r).drop (dr (x::r)).2).length<=r.length:=by rw[aj,cz];omega
 unfold runes;rw[cz,oA,tI r.length _ _ hd (ag _)]
theorem A9(l:O)(p:Nat):Utf8.decode (E l) p=dr (l.drop p):=by
 rw[Lib.decode_at,td,aF,aj];simp only[Ab,fz,dH]
theorem GU(s:ByteArray)(w:H)(hs:s.size<=307200000)(hT:uL w) :
  Calls prog 243 #[.string s] w λe w'=>ga w 3 (d8 (runes (kz (ls s)))) e w':=by
 obtain⟨i0,hi0,hz0,hz1,hz2⟩:=info_parts CU;have kb:=run_bytes_of_string (P:=prog) w 9 25 5 s underlying9 underlying25 underlying5;obtain⟨f,l⟩:=V (grownCap w s.size 0 5);have hcp1:s.size<=f:=by rw[l];exact grownCap_ge _ _ _ _
 have hcp2:f<=maxLen:=by rw[l];exact grownCap_le_maxLen _ _ _ _ (by unfold maxLen;omega)
 rw[<-l]at kb;clear l;obtain⟨C,q,u⟩:=Kw w s f 5 ((bytesRow s f).size,(bytesRow s f).size+1)
 have t:Sl (w.heap.size+1) (w.alloc (.cells (bytesRow s f) 5 ((bytesRow s f).size,(bytesRow s f).size+1))).drew (.slice (some ⟨w.heap.size,0,none⟩) s.size f) (Lib.byteCells (ls s)) :=
  ⟨f,by rw[hb,nD];exact hcp1,hcp2,.inr ⟨_,0,M0,by rw[hb,nD],C⟩⟩
 rw[<-u]at t;have hd:=a08 (ls s) _ _ t (by rw[nD];omega) (hT.below q);have K:=nT _ (ls s) (ag _);rw[nD]at K;generalize kz (ls s)=D at hd K⊢;obtain⟨T,TL⟩:=ey (runes D);rw[<-TL.o];have HD:=F hd;clear hd;have HB:=F q;clear q;have HZ:=F u;clear u t C hT;go_enter func243,ntmps243
 go_wp2_with(go_at_call 59;refine(HD.o).k λa Q=>?_)
 have a35:r7 w a:=(HB.o).trans ((Q.o).m (by have:=HZ.o;omega));have z:=F a35;clear a35;have DL:(E D).size=D.length:=aF D;have WT:=F DL;clear DL
 go_loopw [3] (λout wr=>∃(p:Nat) (acc:List Int),p<=D.length/\wr.heap[a.heap.size]?= some (.stringIter (E D) p)/\wr.ownsRow (a.heap.size+1) 3 1 out acc.length (d8 acc) /\
   acc++runes (D.drop p)=T/\acc.length<=p/\a.heap.size<wr.heap.size/\r7 a wr) (λ_ wr=>D.length-wr.iterPos a.heap.size)
 exact⟨0,[],M0,World.iter_heap _ _ _,⟨Oc,.inl ⟨rfl,rfl⟩⟩,by simpa using TL.o.symm,Oc,by simp[World.iter],(gT _ _).alloc (ag _) _⟩
 obtain⟨p,acc,hp,hit,hown,hacc,hal,hwz,hbel⟩:=hrel;have N:=F hit;clear hit;have HO:=F hown;clear hown;have HC:=F hacc;clear hacc;have lZ:=F hbel;clear hbel;by_cases L:p<D.length
 ·have d:∀ty,(Instr.next (.pointer (some ⟨a.heap.size,0,none⟩)) true ty).run prog wr=_:=λty=>Lib.run_next_any_at wr a.heap.size (E D) p ty N.o (by rw[WT.o];exact L)
  have J:=A9 D p
  obtain⟨x,r,X⟩:∃x r,D.drop p=x::r:=by
   cases h:D.drop p with
   |nil=>have:=congrArg List.length h;simp at this;omega
   |cons x r=>exact⟨x,r,rfl⟩
  have hn:=nV x r;have M:=Fs (x::r);have hlen:r.length+1=D.length-p:=by have:=congrArg List.length X;simp at this;omega
  have j:=HC.o;rw[X,wF]at j;rw[J,X]at d;have hdrop:(x::r).drop (dr (x::r)).2=D.drop (p+(dr (x::r)).2):=by rw[<-X,qg]
  rw[hdrop]at j;obtain⟨rn,g,B⟩:∃rn g,dr (x::r)=(rn,g):=⟨_,_,rfl⟩;rw[B]at d hn M j;simp only at d hn M j;clear B hdrop J;have Ei:=F j;clear j X;obtain⟨hn1,hn2⟩:=hn;have CO:p+g<=D.length:=M0;clear hn2 hlen;have PD:=Lib.iterAt_heap wr a.heap.size (E D) p (p+g) N.o;have ZE:=Lib.iterAt_size wr a.heap.size (E D) (p+g);have n:=ownsRow_iterAt HO.o (k:=a.heap.size) (bV _) (E D) (p+g);have W:=Lib.below_iterAt (lZ.o) (k:=a.heap.size) (ag _) (E D) (p+g);obtain⟨wi,HWI⟩:=ey (wr.iterAt a.heap.size (E D) (p+g));rw[<-HWI.o]at PD ZE n W d;have hpos:wr.iterPos a.heap.size=p:=iterPos_of N.o;have Br:=F PD;clear PD;have R:=F ZE;clear ZE;have Kc:=F n;clear n;have xt:=F W;clear W;have Ke:=F hpos;clear hpos;have hbase:a.heap.size+1<=wi.heap.size:=by have:=R.o;omega
  go_wp2_with(at_builtin;go_must (refine et rfl 13 16 _ rfl (a.heap.size+1) 3 i0 _ 8 underlying224 hi0 hz0 hz1 hz2 rfl _ _ acc.length (d8 acc) rfl Kc.o (.int .i64 rn) rfl rfl M0 M0 hbase ?_);intro v2 w2 hown2 hw2 c;have eJ:=F hown2;clear hown2;have y:=F c;clear c)
  go_roundw
  ·have c:=y.o;refine⟨p+g,acc++[(rn:Int)],CO,(c.block _ M0).trans Br.o,?_,?_,?_,M0,(xt.o).trans (c.m M0)⟩
   ·have:=eJ.o
    rw[ae,dq]
    simpa[d8]using this
   ·rw[bB];exact Ei.o
   rw[ae,dq];omega
  ·have e2:w2.iterPos a.heap.size=p+g:=iterPos_of (((y.o).block _ M0).trans Br.o);rw[e2,Ke.o];omega
 have d:∀ty,(Instr.next (.pointer (some ⟨a.heap.size,0,none⟩)) true ty).run prog wr=_:=λty=>Lib.run_next_end_at wr a.heap.size (E D) p ty N.o (by rw[WT.o];exact L)
 go_wp2
 go_ret;have ho:=HO.o;have j:=HC.o;rw[bE M0,Mn,aV]at j;rw[j]at ho;have i:=(z.o).size;exact ga.mk ho M0 ((z.o).trans ((lZ.o).m i))
theorem RQ{P:Program}{e:TypeId}{i:TypeInfo}(hi:P.info? e=some i)(hsize:i.size=1)(w:H):(sizeOf e).run P w=.ok 1 w:=by
 simp[sizeOf,typeInfo,hi,hsize]
section
variable {P:Program} {t:TypeId} {i:TypeInfo} (ht:P.underlying t=some (.slice (P.elem t))) (hi:P.info? (P.elem t)=some i) (hsize:i.size=1)
include ht hi hsize
end
def Cut(s:O)(k c:Nat):Prop:=(c=0/\∀j (h:j<s.length),1<=j->j<k->G s[j]≠45)\/(1<=c/\c<k/\(∃h:c<s.length,G s[c]=45)/\∀j (h:j<s.length),c<j->j<k->G s[j]≠45)
structure gF where
 kind:Int
 name:O
 four:Int
 six:List Int
structure Url where
 aJ:O
 usr:O
 ib:O
 host:gF
 bz:Bool
 port:Int
 opq:Bool
 flat:O
 path:List O
 bZ:Bool
 q:O
 cg:Bool
 f:O
def aS(h:gF):List Z:=.int .i64 h.kind::S h.name::.int .u32 h.four::h.six.map (Value.int .u16)
def cu(A:Z)(u:Url):List Z :=
 [S u.aJ,S u.usr,S u.ib]++aS u.host++[.bool u.bz,.int .i64 u.port,.bool u.opq,S u.flat,A,.bool u.bZ,S u.q,.bool u.cg,S u.f]
structure sV (h:gF):Prop where
 k:-9223372036854775808<=h.kind/\h.kind<=9223372036854775807
 f:0<=h.four/\h.four<4294967296
 l:h.six.length=8
 s:∀n∈h.six,0<=n/\n<65536
structure gG (u:Url):Prop where
 h:sV u.host
 p:-9223372036854775808<=u.port/\u.port<=9223372036854775807
structure By (cs:Array Z) (h:gF):Prop where
 sz:cs.size=11
 kind:cs[0]?= some (.int .i64 h.kind)
 name:cs[1]?= some (S h.name)
 four:cs[2]?= some (.int .u32 h.four)
 six:∀k (hk:k<h.six.length),cs[3+k]?= some (.int .u16 h.six[k])
 ok:sV h
structure sY (cs:Array Z) (A:Z) (u:Url):Prop where
 sz:cs.size=23
 aJ:cs[0]?= some (S u.aJ)
 usr:cs[1]?= some (S u.usr)
 ib:cs[2]?= some (S u.ib)
 kind:cs[3]?= some (.int .i64 u.host.kind)
 XM:∀k,k<11->cs[3+k]?= (aS u.host)[k]?
 bz:cs[14]?= some (.bool u.bz)
 port:cs[15]?= some (.int .i64 u.port)
 opq:cs[16]?= some (.bool u.opq)
 flat:cs[17]?= some (S u.flat)
 path:cs[18]?= some A
 bZ:cs[19]?= some (.bool u.bZ)
 q:cs[20]?= some (S u.q)
 cg:cs[21]?= some (.bool u.cg)
 f:cs[22]?= some (S u.f)
 ok:gG u
theorem eight{α:Type}{l:List α}(h:l.length=8):∃a b c d e f g i,l=[a,b,c,d,e,f,g,i]:=by
 match l,h with
 | [a,b,c,d,e,f,g,i],_=>exact⟨a,b,c,d,e,f,g,i,rfl⟩
theorem CS{h:gF}(ok:sV h):By (aS h).toArray h:=by
 obtain⟨a,b,c,d,e,f,g,i,hl⟩:=eight ok.l;refine⟨?_,rfl,rfl,rfl,?_,ok⟩
 ·simp[aS,ok.l]
 intro k j;have h8:k<8:=by rw[ok.l]at j;exact j
 simp only[aS,cf];rw[show 3+k=k+1+1+1 by omega];simp[j]
theorem lV{u:Url}(A:Z)(ok:gG u):sY (cu A u).toArray A u:=by
 obtain⟨aJ,usr,ib,⟨j,hn,hf,six⟩,a1,a2,a3,a4,a5,a6,a7,a8,a9⟩:=u;have m:=ok.h.l;simp only at m;obtain⟨a,b,c,d,e,f,g,i,rfl⟩:=eight m;refine⟨rfl,rfl,rfl,rfl,rfl,?_,rfl,rfl,rfl,rfl,rfl,rfl,rfl,rfl,rfl,ok⟩;intro k j
 match k,j with
 |0,_=>rfl
 |1,_=>rfl
 |2,_=>rfl
 |3,_=>rfl
 |4,_=>rfl
 |5,_=>rfl
 |6,_=>rfl
 |7,_=>rfl
 |8,_=>rfl
 |9,_=>rfl
 |10,_=>rfl
theorem jb:(prog.info? 32).map (·.size)=some 11:=Rz
def nth{α:Type}:List α->Nat->Option α
 | [],_=>none
 |x::_,0=>some x
 |_::r,n+1=>nth r n
theorem vZ{α:Type}:∀(l:List α) (i:Nat) (o:α),nth l i=some o->l.toArray[i]?= some o
 | [],_,_,h=>by cases h
 |x::r,0,o,h=>by simpa[nth]using h
 |x::r,n+1,o,h=>by
  have:=vZ r n o h
  simpa using this
section
variable {P:Program} {l:List Oper} {Q:Exit->Act->H->Prop} {S:H->Prop} {fuel:Nat} {listed:Array Bool} {a:Act} {w:H}
theorem tk(i:Nat){d:Oper}{v:Z}(hi:nth l i=some d)
  (m:Region.noSelect l.toArray=true) (g:Region.free .any l.toArray listed i=true) (k:(Region.ready .any l.toArray listed).contains i=true)
  (e:∀c a w,Q (.panic c) (a.put d.dst v) w->Q (.panic c) a w) (j:Region.wanted d (yielded l.toArray a.tmps)=true) (f:S w)
  (hy:∀w,S w->(execOp a.eval d).run P w=.ok (.value v) w)
  (h:wpAnyH P .any l.toArray Q S fuel (listed.setIfInBounds i true) (a.put d.dst v) w):wpAnyH P .any l.toArray Q S (fuel+1) listed a w :=
 wpAnyH_take (vZ _ _ _ hi) m g k e (Or.inl ⟨j,hy⟩) f h
theorem ek (i : Nat) {d : Oper} {v : Z} {M : Array Bool} {b : Act} (h : wpAnyH P .any l.toArray Q S fuel M b w) (hi : nth l i = some d := by rfl)
 (n : Region.noSelect l.toArray = true := by kernel_rfl) (j : Region.free .any l.toArray listed i = true := by kernel_rfl) (m : (Region.ready .any l.toArray listed).contains i = true := by kernel_rfl)
 (f : ∀c a w,Q (.panic c) (a.put d.dst v) w -> Q (.panic c) a w := by exact λ_ _ _ h => h) (k : Region.wanted d (yielded l.toArray a.tmps) = true := by rfl) (g : S w := by assumption)
 (hy : ∀w,S w -> (execOp a.eval d).run P w = .ok (.value v) w := by(intro wS hSw;(try dsimp only at hSw);go_simp;first|done|with_reducible rfl))
 (e : listed.setIfInBounds i true = M := by((try simp only[a1o,List.set_cons_zero,List.set_cons_succ]);first|done|with_reducible rfl))
 (U : a.put d.dst v = b := by((try simp only[Act.put,a1o,List.set_cons_zero,List.set_cons_succ]);first|done|with_reducible rfl)) : wpAnyH P .any l.toArray Q S (fuel + 1) listed a w := by
 subst e;subst U;exact wpAnyH_take (vZ _ _ _ hi) n j m f (Or.inl ⟨k,hy⟩) g h
theorem e_l (i : Nat) {d : Oper} {v : Z} {M : Array Bool} {b : Act} (hi : nth l i = some d) (hy : ∀w,S w -> (execOp a.eval d).run P w = .ok (.value v) w) (h : wpAnyH P .any l.toArray Q S fuel M b w)
 (n : Region.noSelect l.toArray = true := by kernel_rfl) (j : Region.free .any l.toArray listed i = true := by kernel_rfl) (m : (Region.ready .any l.toArray listed).contains i = true := by kernel_rfl)
 (f : ∀c a w,Q (.panic c) (a.put d.dst v) w -> Q (.panic c) a w := by exact λ_ _ _ h => h) (k : Region.wanted d (yielded l.toArray a.tmps) = true := by rfl) (g : S w := by assumption)
 (e : listed.setIfInBounds i true = M := by((try simp only[a1o,List.set_cons_zero,List.set_cons_succ]);first|done|with_reducible rfl))
 (U : a.put d.dst v = b := by((try simp only[Act.put,a1o,List.set_cons_zero,List.set_cons_succ]);first|done|with_reducible rfl)) : wpAnyH P .any l.toArray Q S (fuel + 1) listed a w := by
 subst e;subst U;exact wpAnyH_take (vZ _ _ _ hi) n j m f (Or.inl ⟨k,hy⟩) g h
theorem tq(i:Nat){d:Oper}(hi:nth l i=some d)(v:Z)(hy:∀w,S w->(execOp a.eval d).run P w=.ok (.value v) w)
 (h:wpAnyH P .any l.toArray Q S fuel (listed.setIfInBounds i true) (a.put d.dst v) w)
 (m:Region.noSelect l.toArray=true:=by kernel_rfl) (g:Region.free .any l.toArray listed i=true:=by kernel_rfl) (k:(Region.ready .any l.toArray listed).contains i=true:=by kernel_rfl)
 (e:∀c a w,Q (.panic c) (a.put d.dst v) w->Q (.panic c) a w:=by exact λ_ _ _ h=>h) (j:Region.wanted d (yielded l.toArray a.tmps)=true:=by rfl) (f:S w:=by assumption):wpAnyH P .any l.toArray Q S (fuel+1) listed a w :=
 tk i (v:=v) hi m g k e j f hy h
theorem rn(i:Nat){c:Oper}(f:Region.ready .any l.toArray listed=[i])(hi:nth l i=some c)(e:Region.wanted c (yielded l.toArray a.tmps)=true)
  (h:∀d:Act->H->Prop,Shut (∀a w,S w->(S w->wpAnyH P .any l.toArray Q S fuel (listed.setIfInBounds i true) a w)->d a w)->Oper.wp P c a w d Q) :
  wpAnyH P .any l.toArray Q S (fuel+1) listed a w :=
 wpAnyH_ready (rs:=[i]) f Oc (AllReadyH.cons (vZ _ _ _ hi) (λK hK=>by rw[ge e];exact h K hK) AllReadyH.nil)
theorem rn2(i j:Nat){e f:Oper}(m:Region.ready .any l.toArray listed=[i,j])(hi:nth l i=some e)(g:Region.wanted e (yielded l.toArray a.tmps)=true)
  (h:∀c:Act->H->Prop,Shut (∀a w,S w->(S w->wpAnyH P .any l.toArray Q S fuel (listed.setIfInBounds i true) a w)->c a w)->Oper.wp P e a w c Q)
  (k:nth l j=some f) (d:Region.wanted f (yielded l.toArray a.tmps)=true)
  (I:∀c:Act->H->Prop,Shut (∀a w,S w->(S w->wpAnyH P .any l.toArray Q S fuel (listed.setIfInBounds j true) a w)->c a w)->Oper.wp P f a w c Q) :
  wpAnyH P .any l.toArray Q S (fuel+1) listed a w :=
 wpAnyH_ready (rs:=[i,j]) m Oc (AllReadyH.cons (vZ _ _ _ hi) (λK hK=>by rw[ge g];exact h K hK) (AllReadyH.cons (vZ _ _ _ k) (λK hK=>by rw[ge d];exact I K hK) AllReadyH.nil))
end
