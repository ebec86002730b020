import Derived.Test.YtpbnfjdkdfombaaGreatDoorGTrP
set_option maxHeartbeats 40000000
namespace Go.Proofs.YtpbnfjdkdfombaaGreatDoor
open Go.Proofs.Tryz
open Go.RowKit
set_option maxRecDepth 10000
def yJ(l:List O):Nat:=(l.map List.length).sum

theorem LE(l:List O)(k:Nat)(a:k<l.length):yJ (l.take (k+1))=yJ (l.take k)+l[k].length:=by
 unfold yJ;rw[aH a,eY,List.sum_append,dh,pz,List.sum_cons,List.sum_nil,dH]

theorem KU(u:Url)(cs:Array Z)(A:Z)(w:H)(h:sY cs A u)(hp:Sl w.heap.size w A (u.path.map S)) :
  Calls prog 16 #[.agg cs] w λe w'=>zH (EN u) e/\r7 w w':=by
 have h0:=h.aJ;have Y:=h.usr;have I:=h.er;have h4:cs[4]? = some (S u.host.name):=h.XM 1 M0;have L:=h.flat;have n:=h.path;have M:=h.q;have P:=h.f;clear h;obtain⟨Good,J⟩:∃ Good:Prop,Good=EN u:=⟨_,rfl⟩;rw[<-J]
 have c:u.path.length<=50->yJ u.path<=2000->u.aJ.length<=100->u.usr.length<=500->u.er.length<=500->u.flat.length<=1000->u.q.length<=1000->u.f.length<=1000->u.host.name.length<=500->Good:=by
  intro a1 a2 a3 a4 a5 a6 a7 a8 a9;rw[J];exact⟨a1,a2,a3,a4,a5,a6,a7,a8,a9⟩
 clear J;generalize u.aJ=aJ at *;generalize u.usr=usr at *;generalize u.er=er at *;generalize u.host.name=nam at *;generalize u.flat=flat at *;generalize u.path=path at *;generalize u.q=q at *;generalize u.f=f at *;obtain⟨av,cc,t⟩:=cQ hp;rw[ay]at t;subst t;obtain⟨N,Q⟩:=V (path.length);rw[<-Q]at n hp;have B:=F Q;clear Q;have HP:=F hp;clear hp;have z:=F c;clear c;go_enter func16,ntmps16
 go_wp2_with (first
  |(refine boxed rfl _ _ rfl cs rfl ?_;intro bx w1 R T hb3 a p;have c18:=(a 18).trans n;have HC:=F<|And.intro ((a 0).trans h0) (And.intro ((a 1).trans Y) (And.intro ((a 2).trans I) (And.intro ((a 4).trans h4) (And.intro ((a 17).trans L) (And.intro ((a 20).trans M) ((a 22).trans P))))));have HB:=F p;clear R T hb3 a p))
 go_loopw [3,4] (λnv iv wr=>∃ k:Nat,k<=N/\k<=100/\iv=.int .i64 k/\(∃s:Nat,nv=.int .i64 s/\s<=500*k/\Hid (s=yJ (path.take k)))/\w1=wr) (λ_ i _=>N-(intOf i).toNat)
 case atStart=>exact⟨0,M0,M0,Oc,⟨0,Oc,M0,rfl⟩,rfl⟩
 case round =>
  obtain⟨k,hk,hk1,rfl,⟨s,rfl,hs5,y⟩,rfl⟩:=hrel;by_cases j:k<N/\k<100
  ·have r:k<path.length:=by rw[<-B.o];exact j.1
   have h1i:(k:Int)<N:=M0;have h2i:(k:Int)<100:=M0;obtain⟨b,o,rfl,hbb,hcc⟩:=gO (HP.o.below HB.o) k r;have g:=LE path k r;rw[<-y.o]at g;generalize path[k]=piece at hcc g;have D:=F g;clear g j y;by_cases x:(500:Int)<piece.length
   ·go_wp2_with fail
    go_ret;exact⟨zH.ff,HB.o⟩
   go_wp2_with fail;go_roundw
   case rel=>exact⟨k+1,M0,M0,Oc,⟨s+piece.length,Oc,M0,D.o.symm⟩,by trivial⟩
   case measure=>simp[intOf];omega
  have d:k=N\/(k<N/\k=100):=M0;have x:¬ ((N:Int)<=50)\/((N:Int)<=50/\k=N):=M0
  have v:k=N->s=yJ path:=by
   rintro rfl;rw[y.o]
   conv=>rhs;rw[<-List.take_length (l:=path),<-B.o]
  have m:=F v;clear v y j;obtain⟨c0,c1,c2,c4,c17,c20,c22⟩:=HC.o;have hex:∀ W:H,True:=λ_=>trivial;clear hex;have c:=z.o;rw[<-B.o]at c;have K:=F c;clear c;rcases x with x|⟨x,rfl⟩
  ·rcases d with d|⟨d,hcs2⟩
   ·have t1:¬ (k:Int)<N:=by omega
    go_wp2_with fail;go_ret;exact⟨zH.ff,HB.o⟩
   have t1:(k:Int)<N:=M0;have t2:¬ (k:Int)<100:=M0;clear d hcs2;go_wp2_with fail;go_ret;exact⟨zH.ff,HB.o⟩
  have C:=F<|m.o rfl;clear d m;go_wp2_with fail
  all_goals
   go_ret;refine⟨zH.of λh=>?_,HB.o⟩;have hsl:=C.o
   first
    |(cases h;done)
    |(refine K.o M0 (by rw[<-hsl];simp_all;omega) ?_ ?_ ?_ ?_ ?_ ?_ ?_ <;>(simp_all;try omega))
theorem yH:∀ (l:List ((O×O)×Int)) (k:O×O),(∀p∈l,p.2=1\/p.2=2\/p.2=3)->jD l k=0\/jD l k=1\/jD l k=2\/jD l k=3
 | [],_,_=>.inl rfl
 |p::l,k,h=>by
  unfold jD
  split
  ·exact .inr (h p fA)
  exact yH l k λq a=>h q (cN _ a)

theorem QF(a name:O):gA a name=0\/gA a name=1\/gA a name=2\/gA a name=3:=yH _ _ P8
theorem Wg{u:Url}(h:EN u)(ok:gG u):(dA u true).length<=10000:=by
 have h0:=h.name;have I:=oQ u.host ok.h 500 h0;have h3:=sC u ok;have a1:=h.usr;have a2:=h.er;have a3:=h.flat;have a4:=h.path;have a5:=h.q;have a6:=h.f;have a7:=h.aJ;have a8:=h.tot
 have hw:(uf u).length<=1002:=by
  unfold uf
  split
  ·simp
  split <;>simp only[ae,ah,aO] <;>omega
 have ha:(ld u).length<=1700:=by
  unfold ld Fq
  split
  ·split <;>simp
  simp only[ae,ah,aO];omega
 have hp:(nh u).length<=3050:=by
  unfold nh
  split
  ·omega
  rw[sw];omega
 have hq:(qF u).length<=1001:=by
  unfold qF
  split
  ·rw[ae,dq];omega
  simp
 have hf:(Nc u true).length<=1001:=by
  unfold Nc
  split
  ·rw[ae,dq];omega
  simp
 unfold dA;simp only[ae,ah,aO];omega

theorem JI{x:O}:∀ {l:List O},x∈l->x.length<=(l.map List.length).sum
 |y::l,X=>by
  rw[dh,List.sum_cons];rcases aK.mp X with rfl|X
  ·omega
  have:=JI X;omega

theorem UD{u:Url}(h:EN u)(ok:gG u):zK u:=⟨ok,h.sm,by have:=h.path;omega,λx X=>by
 have Y:=h.tot;have I:=JI X;omega⟩
theorem a0y(x:UInt8):Dh x ≠ []:=ku (P:=λx=>Dh x ≠ []) (by decide +kernel) x
theorem Zu{l:O}(h:l ≠ []):qM l ≠ []:=by
 cases l with
 |nil=>exact absurd rfl h
 |cons x r =>
  intro e;have a:Dh x++qM r=[]:=e;exact a0y x (lr.mp a).1
theorem R9(u:Url)(q:Bool):dA u q ≠ []:=by
 intro e;have h:=congrArg List.length e;unfold dA at h;simp only[ae,ah,aO]at h;omega
theorem Uj{k:Int}(f:k=1\/k=2\/k=3){l:List eu}(g:l ≠ [])(d:O):ye k l d ≠ []:=by
 cases l with
 |nil=>exact absurd rfl g
 |cons i r =>
  rcases f with rfl|rfl|rfl
  ·exact R9 i.url true
  ·intro e
   have a:eS i++(r.flatMap λy=>[44,32]++eS y)=[]:=e;have c:dA i.url true++du i.words=[]:=(lr.mp a).1;exact R9 i.url true (lr.mp c).1
  intro e;have h:=congrArg List.length e;unfold ye X8 at h;simp at h
theorem Dj{p:qh}{b:Url}{a c raw:O}(f:gA a c≠0)(hm:¬ p.most<(raw.length:Int)) :
  (oy b=false/\dQ p b a c raw=iu 2)\/(oy b=true/\(dQ p b a c raw=iu 3\/dQ p b a c raw=iu 4\/dQ p b a c raw=iu 1\/∃ o,o ≠ []/\dQ p b a c raw=⟨3,0,o⟩)):=by
 unfold dQ;rw[if_neg f,if_neg hm];cases hr:oy b with
 |false=>exact .inl ⟨rfl,by rw[if_pos rfl]⟩
 |true =>
  refine .inr ⟨rfl,?_⟩;rw[if_neg Oc]
  split
  ·exact .inl rfl
  split
  ·exact .inr (.inl rfl)
  next d =>
  split
  ·exact .inr (.inr (.inl rfl))
  refine .inr (.inr (.inr ⟨_,?_,rfl⟩));unfold kK;rw[if_neg d]
  have e:gA a c=1\/gA a c=2\/gA a c=3:=by
   have:=QF a c;omega
  exact Zu (Uj e d _)
theorem filterOther_walk(p:qh)(v t x A:Z)(u:Url)(C J:ByteArray)(rv:Z)(raw:O)(w:H)(hp:BB w v t x p)(ok:gG u)(hs:Sl w.heap.size w A (u.path.map S))(_:C.size<=maxLen)(_:J.size<=maxLen)(hr:Sl w.heap.size w rv (Lib.byteCells raw))(hE:Env w)(hN:NE w) :
  bF prog 4 #[.agg (aY v t x p.most),.agg (ai A u),.string C,.string J,rv] w (.bool true):=by
 have YF:=F<|λW (U:r7 w W)=>DM W (hE.below U) (hN.below U);have HF1:=F<|λW (U:r7 w W)=>KV p v t x W (hp.below U);have Hs:=F<|λW (U:r7 w W)=>KU u (ai A u) A W (lV A ok) ((hs.below U).more U.size);have H8:=F ok.h.l;obtain⟨L,hL⟩:=V (raw.length)
 obtain⟨av,cv,rfl⟩:∃ a c,rv=.slice a L c:=by
  rcases AU hr with⟨rfl,a,c,rfl⟩|⟨b,o,c,_,_,rfl,_⟩
  ·exact⟨a,c,by rw[hL];rfl⟩
  exact⟨_,c,by rw[hL]⟩
 have HL:=F hL;have HP:=F hp;have Kd:=F ok;have HS:=F hs;have HR:=F hr;have HE:=F hE;have HN:=F hN;obtain⟨W,hw,hsz,c1,c2,G⟩:=qd w 24 34 (aY v t x p.most) (ai A u);have C1:=F c1;have C2:=F c2;have B2:=F G;have HW:=F hw;clear c1 c2 G hw hsz hL hp ok hs hr hE hN;go_enter func4,ntmps4
 go_upto_region 1 with fail
 rw[HW.o]
 go_upto_region 4 with(first
  |(go_at_call 8;refine(YF.o _ B2.o).m ?_;rintro e w3 ⟨rfl,U⟩;have B3:=F<|dw B2.o U;have D1:=F<|C1.o.keep U;have D2:=F<|C2.o.keep U;clear U)
  |((with_reducible apply bS);refine fj r5 (.tmp 5) rfl w.heap.size v t x p.most rfl D1.o ?_)
  |(go_at_call 9;refine(HF1.o _ B3.o).m ?_;rintro e w4 ⟨⟨b1,rfl,hf1⟩,U⟩;have F1:=F hf1;have B4:=F<|dw B3.o U;have E1:=F<|D1.o.keep U;have E2:=F<|D2.o.keep U;clear U hf1)
  |((with_reducible apply bS);refine cR r5 (.tmp 6) rfl (w.heap.size+1) A u H8.o rfl E2.o ?_)
  |(go_at_call 16;refine(Hs.o _ B4.o).m ?_;rintro e w5 ⟨⟨G,rfl,hf2⟩,U⟩;have F2:=F hf2;have K:=F<|dw B4.o U;have G1:=F<|E1.o.keep U;have G2:=F<|E2.o.keep U;clear U hf2))
 clear C1 C2 B2 HW YF HF1 Hs B3 D1 D2 B4 E1 E2;cases b1 with
 |false =>
  go_wp2_with fail;go_ret;exact⟨rfl,K.o⟩
 |true =>
  cases G with
  |false =>
   go_wp2_with fail;go_ret;exact⟨rfl,K.o⟩
  |true =>
   by_cases h50:(50:Int)<C.size
   ·go_wp2_with fail
    go_ret;exact⟨rfl,K.o⟩
   by_cases h51:(50:Int)<J.size
   ·go_wp2_with fail
    go_ret;exact⟨rfl,K.o⟩
   by_cases h3:(300:Int)<L
   ·go_wp2_with fail
    go_ret;exact⟨rfl,K.o⟩
   have b6T:=F1.o rfl;have N:=F2.o rfl;have MX:=F<|λW (U:r7 w W)=>(HP.o.below U).at b6T;have M:=F<|UD N Kd.o;have hsl:=Wg N Kd.o;obtain⟨r,hV⟩:=V (dQ p u (ls C) (ls J) raw)
   have WV:=F<|λW (U:r7 w W)=>(show bF prog 12 #[.agg (aY v t x p.most),.agg (ai A u),.string C,.string J,.slice av L cv] W (.agg (vF r))from by
    have h:=vr p u (ls C) (ls J) raw (.slice av L cv) v t x A W (MX.o W U) M.o ((HS.o.below U).more U.size) M0 ⟨by rw[ec];omega,by rw[ec];omega⟩ ((HR.o.below U).more U.size) (λe=>vw p (T:=10000) ⟨M0,M0⟩ hsl e (by have:=HL.o;omega)) (HE.o.below U) (HN.o.below U);rw[kt,kt,<-hV]at h;exact h)
   obtain⟨kd,s⟩:=V (gA (ls C) (ls J))
   have W4:=F<|λW=>(show bF prog 14 #[.string C,.string J] W (.int .i64 kd)from by
    have h:=Dc (ls C) (ls J) W (by rw[ec];omega) (by rw[ec];omega);rw[kt,kt,<-s]at h;exact h)
   obtain⟨q,hq⟩:=V (oy u);have HRI:=F<|λW (U:r7 w W)=>(show bF prog 17 #[.agg (ai A u)] W (.bool q)from(xh u A W M.o ((HS.o.below U).more U.size) M0 (HE.o.below U) (HN.o.below U)).m λe w' ⟨z,Y,I,h3⟩=>⟨by rw[Y,show z=q by rw[hq,bX,I,p7]],h3⟩);obtain⟨mo,D⟩:=V (p.most);have Yx:=F D;have y:=F (show kd=0->r=⟨1,0,[]⟩from λh=>by rw[hV];unfold dQ;rw[if_pos (by rw[<-s];exact h)]);have J6:=F (show kd≠0->mo<(L:Int)->r=iu 1 from λY I=>by rw[hV];unfold dQ;rw[if_neg (by rw[<-s];exact Y),if_pos (by rw[<-D,<-HL.o];exact I)])
   have mh:=F (show kd≠0->¬ mo<(L:Int)->(q=false/\r=iu 2)\/(q=true/\(r=iu 3\/r=iu 4\/r=iu 1\/∃ o,o ≠ []/\r=⟨3,0,o⟩))from λY I=>by
    rw[hV,hq];exact Dj (by rw[<-s];exact Y) (by rw[<-D,<-HL.o];exact I))
   obtain⟨i,P⟩:=V (r.kind);obtain⟨d,R⟩:=V (r.why);obtain⟨g,Q⟩:=V (E r.o);rw[show vF r=bH i d g by rw[P,R,Q]]at WV;have S4:=F P;have k:=F R;have j:=F Q;clear hV s hq D b6T N hsl MX P R Q F1 F2 HP M HS HR HE HN Kd HL
   go_upto_region 7 with(first
    |((with_reducible apply bS);refine fj r5 (.tmp 5) rfl w.heap.size v t x p.most rfl G1.o ?_)
    |((with_reducible apply bS);refine cR r5 (.tmp 6) rfl (w.heap.size+1) A u H8.o rfl G2.o ?_)
    |(go_at_call 12;refine(WV.o _ K.o).m ?_;rintro e w6 ⟨rfl,U⟩;have B6:=F<|dw K.o U;have I1:=F<|G1.o.keep U;have I2:=F<|G2.o.keep U;clear U)
    |((with_reducible apply bS);refine aM rfl 40 rfl _ _ (tV _) ?_;refine newV rfl (.tmp 14) (.tmp 49) rfl i d g rfl rfl rfl ?_;intro w7 I U;have B:=F I;have B7:=F<|dw B6.o U;have J1:=F<|I1.o.keep U;have J2:=F<|I2.o.keep U;clear U I))
   obtain⟨g14,hg⟩:=V (w6.heap.size);rw[<-hg]at B ⊢;clear hg G1 G2 I1 I2 K B6 WV;by_cases k0:kd=0
   ·have X:=y.o k0
    have f:=F (show i=1/\d=0/\g=e0 by rw[S4.o,k.o,j.o,X];exact⟨rfl,rfl,rfl⟩);obtain⟨rfl,rfl,rfl⟩:=f.o;clear X f S4 k j y J6 mh;subst k0
    go_wp2_with (first
     |(go_at_call 14;refine(W4.o _).m ?_;rintro e w8 ⟨rfl,U⟩;have B8:=F<|dw B7.o U;have V8:=F<|B.o.keep U;clear U)
     |((with_reducible apply bS);refine vB r5 (.tmp 14) rfl g14 1 0 e0 rfl V8.o ?_)
     |((with_reducible apply bS);refine jl r5 _ #[(0,.const (.int .i64 1))] rfl (.agg (bH 1 0 e0)) #[(0,.int .i64 1)] rfl Od ?_)
     |((with_reducible apply bS);refine O0 r5 (.tmp 57) (.tmp 58) rfl 1 0 1 0 e0 e0 true Oc rfl rfl ?_))
    go_ret;exact⟨rfl,B8.o⟩
   have qk:(kd==0)=false:=by simpa using k0
   go_upto_region 10 with(first
    |(go_at_call 14;refine(W4.o _).m ?_;rintro e w8 ⟨rfl,U⟩;have B8:=F<|dw B7.o U;have V8:=F<|B.o.keep U;have M1:=F<|J1.o.keep U;have b6Q:=F<|J2.o.keep U;clear U))
   clear B J1 J2 B7;by_cases hm:mo<(L:Int)
   ·have X:=J6.o k0 hm
    have f:=F (show i=2/\d=1/\g=e0 by rw[S4.o,k.o,j.o,X];exact⟨rfl,rfl,rfl⟩);obtain⟨rfl,rfl,rfl⟩:=f.o;clear X f S4 k j y J6 mh
    go_wp2_with (first
     |((with_reducible apply bS);refine tY r5 (.tmp 63) rfl w.heap.size 3 24 (aY v t x p.most) M1.o (.int .i64 mo) (by rw[Yx.o];rfl) rfl ?_)
     |((with_reducible apply bS);refine vB r5 (.tmp 14) rfl g14 2 1 e0 rfl V8.o ?_)
     |((with_reducible apply bS);refine jl r5 _ #[(0,.const (.int .i64 2)),(1,.const (.int .i64 1))] rfl (.agg (bH 2 1 e0)) #[(0,.int .i64 2),(1,.int .i64 1)] rfl (xZ 1) ?_)
     |((with_reducible apply bS);refine O0 r5 (.tmp 68) (.tmp 69) rfl 2 1 2 1 e0 e0 true Oc rfl rfl ?_))
    go_ret;exact⟨rfl,B8.o⟩
   go_upto_region 13 with(first
    |((with_reducible apply bS);refine tY r5 (.tmp 63) rfl w.heap.size 3 24 (aY v t x p.most) M1.o (.int .i64 mo) (by rw[Yx.o];rfl) rfl ?_)
    |((with_reducible apply bS);refine cR r5 (.tmp 6) rfl (w.heap.size+1) A u H8.o rfl b6Q.o ?_)
    |(go_at_call 17;refine(HRI.o _ B8.o).m ?_;rintro e w9 ⟨rfl,U⟩;have B9:=F<|dw B8.o U;have n:=F<|V8.o.keep U;clear U))
   have key:=mh.o k0 hm
   have f:=F (show(q=false/\i=2/\d=2/\g=e0)\/(q=true/\((i=2/\(d=3\/d=4\/d=1)/\g=e0)\/(i=3/\d=0/\g.toList.isEmpty=false))) by
    rw[S4.o,k.o,j.o];rcases key with⟨Y,I⟩|⟨Y,I|I|I|⟨o,h3,I⟩⟩
    ·rw[I];exact .inl ⟨Y,rfl,rfl,rfl⟩
    ·rw[I];exact .inr ⟨Y,.inl ⟨rfl,.inl rfl,rfl⟩⟩
    ·rw[I];exact .inr ⟨Y,.inl ⟨rfl,.inr (.inl rfl),rfl⟩⟩
    ·rw[I];exact .inr ⟨Y,.inl ⟨rfl,.inr (.inr rfl),rfl⟩⟩
    rw[I];exact .inr ⟨Y,.inr ⟨rfl,rfl,by rw[aB];simpa using h3⟩⟩)
   clear key S4 k j y J6 mh M1 b6Q V8 B8;rcases f.o with⟨rfl,rfl,rfl,rfl⟩|⟨rfl,⟨rfl,rfl|rfl|rfl,rfl⟩|⟨rfl,rfl,ho⟩⟩
   all_goals clear f
   all_goals
    go_wp2_with (first
     |((with_reducible apply bS);refine tY r5 (.tmp 76) rfl g14 0 40 _ n.o _ vc0 rfl ?_)
     |((with_reducible apply bS);refine tY r5 (.tmp 81) rfl g14 1 40 _ n.o _ vc1 rfl ?_)
     |((with_reducible apply bS);refine tY r5 (.tmp 89) rfl g14 0 40 _ n.o _ vc0 rfl ?_)
     |((with_reducible apply bS);refine tY r5 (.tmp 92) rfl g14 1 40 _ n.o _ vc1 rfl ?_)
     |((with_reducible apply bS);refine tY r5 (.tmp 98) rfl g14 0 40 _ n.o _ vc0 rfl ?_)
     |((with_reducible apply bS);refine FO r5 (.tmp 101) rfl g14 2 40 _ n.o _ vc2 rfl ?_))
    go_ret;exact⟨rfl,B9.o⟩
theorem cHs:prog.cellsOf 9=1:=Rz

theorem a8p:prog.cellsOf 29=1:=Rz

theorem cH8:prog.cellsOf 30=8:=Rz

theorem cHh:prog.cellsOf 32=11:=Rz

theorem cHi:prog.cellsOf 3=1:=Rz

theorem cHu:prog.cellsOf 28=1:=Rz

section
variable {H':Type} {enc:TypeId×Z->H'} {w:H}
theorem a1i{t:TypeId}{cs:List Z}(a:prog.underlying t=some .bool)(h:Tr enc w t cs):∃ b,cs=[.bool b]:=by
 obtain⟨fuel,x,h⟩:=h;obtain⟨b,rfl,_⟩:=DataW.trod_bool a h;exact⟨b,rfl⟩
end

section
variable {H':Type} {enc:TypeId×Z->H'} {w:H}
theorem a1n{cs:List Z}(h:Tr enc w 30 cs):∃ l:List Int,l.length=8/\cs=l.map (Value.int .u16)/\∀ n∈l,0<=n/\n<65536:=by
 obtain⟨fuel,x,h⟩:=h;obtain⟨xs,m,_,_,hlen,hxs,a⟩:=DataW.trod_array underlying30 h;rw[cH8]at hlen;rw[a8p]at a
 have e:∀ i,i<8->∃ n:Int,cs[i]? = some (.int .u16 n)/\(Lit.int .u16 n).wf=true:=by
  intro i hi;have:=a i hi;rw[b5v,aG M0]at this;obtain⟨n,c,hw⟩:=a01 underlying29 (⟨m,_,this⟩:Tr enc w 29 _);refine⟨n,?_,hw⟩;have f:=congrArg (λl=>l[0]?) c
  simpa[List.getElem?_take,List.getElem?_drop]using f
 obtain⟨l,g,d⟩:=sZ 8 e;refine⟨l,g,?_,λn c=>?_⟩
 ·apply List.ext_getElem?
  intro i;by_cases hi:i<l.length
  ·rw[(d i hi).1]
   simp[hi]
  rw[eC M0,eC (by rw[ay];omega)]
 obtain⟨i,hi,rfl⟩:=cC c;have:=bounds_u16 (d i hi).2;omega
end

section
variable {H':Type} {enc:TypeId×Z->H'} {w:H}
theorem a1m{cs:List Z}(h:Tr enc w 32 cs):∃ u:gF,cs=aS u/\sV u:=by
 obtain⟨e,a⟩:=Sn underlying32 h;rw[cHh]at e;have f0:Tr enc w 3 ((cs.drop 0).take (prog.cellsOf 3)):=a 0 _ rfl;have f1:Tr enc w 9 ((cs.drop 1).take (prog.cellsOf 9)):=a 1 _ rfl;have f2:Tr enc w 28 ((cs.drop 2).take (prog.cellsOf 28)):=a 2 _ rfl;have f3:Tr enc w 30 ((cs.drop 3).take (prog.cellsOf 30)):=a 3 _ rfl;rw[cHi]at f0;rw[cHs]at f1;rw[cHu]at f2;rw[cH8]at f3
 match cs,e with
 | [a0,a1,a2,a3,a4,a5,a6,a7,a8,a9,a10],_ =>
  simp only[List.drop,List.take]at f0 f1 f2 f3;obtain⟨k,hk,c⟩:=a01 underlying3 f0;obtain⟨j,hn⟩:=MB underlying9 f1;obtain⟨fo,ho,d⟩:=a01 underlying28 f2;obtain⟨six,g,f,i⟩:=a1n f3;refine⟨⟨k,j,fo,six⟩,?_,⟨?_,?_,g,i⟩⟩
  ·unfold aS
   simp only at f ⊢;rw[<-f];simp_all
  ·exact bounds_i64 c
  have:=bounds_u32 d;simp only;omega
end
section
variable {H':Type} {enc:TypeId×Z->H'} {w:H}
theorem a93{cs:List Z}(h:Tr enc w 34 cs):∃ A u,cs=cu A u/\gG u/\Sl w.heap.size w A (u.path.map S):=by
 obtain⟨x,a⟩:=Sn underlying34 h;rw[Zh.2.2.2.2.1]at x;have f0:Tr enc w 9 ((cs.drop 0).take (prog.cellsOf 9)):=a 0 _ rfl;have f1:Tr enc w 9 ((cs.drop 1).take (prog.cellsOf 9)):=a 1 _ rfl;have f2:Tr enc w 9 ((cs.drop 2).take (prog.cellsOf 9)):=a 2 _ rfl;have f3:Tr enc w 32 ((cs.drop 3).take (prog.cellsOf 32)):=a 3 _ rfl;have f4:Tr enc w 4 ((cs.drop 14).take (prog.cellsOf 4)):=a 4 _ rfl;have f5:Tr enc w 3 ((cs.drop 15).take (prog.cellsOf 3)):=a 5 _ rfl;have f6:Tr enc w 4 ((cs.drop 16).take (prog.cellsOf 4)):=a 6 _ rfl;have f7:Tr enc w 9 ((cs.drop 17).take (prog.cellsOf 9)):=a 7 _ rfl;have c:Tr enc w 22 ((cs.drop 18).take (prog.cellsOf 22)):=a 8 _ rfl;have d:Tr enc w 4 ((cs.drop 19).take (prog.cellsOf 4)):=a 9 _ rfl;have f10:Tr enc w 9 ((cs.drop 20).take (prog.cellsOf 9)):=a 10 _ rfl;have f11:Tr enc w 4 ((cs.drop 21).take (prog.cellsOf 4)):=a 11 _ rfl;have f12:Tr enc w 9 ((cs.drop 22).take (prog.cellsOf 9)):=a 12 _ rfl;rw[Zh.1]at f0;rw[Zh.1]at f1;rw[Zh.1]at f2;rw[Zh.2.2.2.1]at f3;rw[Oq.2.2.1]at f4;rw[Oq.1]at f5;rw[Oq.2.2.1]at f6;rw[Zh.1]at f7;rw[Oq.2.2.2.1]at c;rw[Oq.2.2.1]at d;rw[Zh.1]at f10;rw[Oq.2.2.1]at f11;rw[Zh.1]at f12
 match cs,x with
 | [a0,a1,a2,a3,a4,a5,a6,a7,a8,a9,a10,a11,a12,a13,c1F,c1G,c1H,c1I,a18,c1J,c1K,c1L,a22],_ =>
  simp only[List.drop,List.take]at f0 f1 f2 f3 f4 f5 f6 f7 c d f10 f11 f12;obtain⟨aJ,e0⟩:=MB underlying9 f0;obtain⟨usr,m⟩:=MB underlying9 f1;obtain⟨z,n⟩:=MB underlying9 f2;obtain⟨C,y,j⟩:=a1m f3;obtain⟨hp,o⟩:=a1i underlying4 f4;obtain⟨K,p,k⟩:=a01 underlying3 f5;obtain⟨J,r⟩:=a1i underlying4 f6;obtain⟨B,s⟩:=MB underlying9 f7;obtain⟨A,g,t,l⟩:=A3 c;obtain⟨D,v⟩:=a1i underlying4 d;obtain⟨q,e10⟩:=MB underlying9 f10;obtain⟨i,e⟩:=a1i underlying4 f11;obtain⟨fr,f⟩:=MB underlying9 f12;refine⟨A,⟨aJ,usr,z,C,hp,K,J,B,g,D,q,i,fr⟩,?_,⟨j,bounds_i64 k⟩,l⟩;simp only[List.cons.injEq,and_true]at e0 m n o p r s t v e10 e f;subst e0 m n o p r s t v e10 e f;unfold cu;simp only;rw[<-y];rfl
end
