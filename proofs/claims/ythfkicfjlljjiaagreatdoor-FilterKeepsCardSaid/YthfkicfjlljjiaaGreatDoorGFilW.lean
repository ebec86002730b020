/- Joined texts. -/
import Derived.Test.YthfkicfjlljjiaaGreatDoorGPolA
import Derived.Test.YthfkicfjlljjiaaGreatDoorGMapK
set_option maxHeartbeats 40000000
namespace Go.Proofs.YthfkicfjlljjiaaGreatDoor
open Tryz
open Go.RowKit
set_option maxRecDepth 10000
variable{V':Vrd}
theorem Wu(w:H)(d e:Array Z):∃ W,((w.alloc (.cells d 24)).alloc (.cells e 34)).alloc (.cells (bH 0 0 e0) 44)=W/\W.heap.size=w.heap.size+3 /\
  CB W w.heap.size 24 d/\CB W (w.heap.size+1) 34 e/\OB w (w.heap.size+2) 44 (bH 0 0 e0) W:=by
 obtain⟨w2,I,z2,f,a2,G⟩:=qd w 24 34 d e;have a3:=CB.new w2 44 (bH 0 0 e0);have c:=(Below.refl w2.heap.size w2).alloc (ag _) (.cells (bH 0 0 e0) 44);obtain⟨w3,a⟩:=V (w2.alloc (.cells (bH 0 0 e0) 44));have z3:w3.heap.size=w2.heap.size+1:=by rw[a];simp
 rw[<-a]at a3 c;rw[z2]at a3;exact⟨w3,by rw[I,a],M0,f.keep c,a2.keep c,OB.of a3 M0 (dw G c)⟩
theorem fa.iok{W:H}{base:Nat}{v:Z}{l:List eu}(c:fa W base v l)(h:ILk l):Items W.heap.size W v l:=c.items λi hi=>(h.u i hi).1.ok
theorem Pn{p:qh}{kind:Int}{b:Url}{l:O}(h:Tj p kind b l):ILk (mg kind b (jw l)).items:=⟨h.u,h.n⟩
theorem vr(p:qh)(b:Url)(K Q raw:O)(rv s r t A:Z)(w:H)(hp:b6w w s r t p)(h:zK b)(hs:Sl w.heap.size w A (b.path.map S))(hl:(dA b true).length<=1048576)(hel:K.length<=1000000/\Q.length<=1000000)
  (hraw:Sl w.heap.size w rv (Lib.byteCells raw)) (hF:eF (dA b true)=some b->Tj p (gA K Q) b raw) (hE:Env w) (hN:NE w) :
  bF prog 15 #[.agg (aY s r t p.most),.agg (ai A b),.string (E K),.string (E Q),rv] w (.agg (vF (dQ p b K Q raw))):=by
 obtain⟨V',hV⟩:=V (dQ p b K Q raw);rw[<-hV];unfold dQ at hV;have B:=λW=>Dc K Q W hel.1 hel.2;obtain⟨k,hkd⟩:=V (gA K Q);rw[<-hkd]at hV hF B;obtain⟨eb,Td⟩:=V (E K);obtain⟨nb,hnb⟩:=V (E Q);rw[<-Td,<-hnb]at B ⊢;have W4:=F B;obtain⟨L,hL⟩:=V (raw.length);rw[<-hL]at hV
 obtain⟨av,cv,rfl⟩:∃ a c,rv=.slice a L c:=by
  rcases AU hraw with⟨rfl,a,c,rfl⟩|⟨b,o,c,_,_,rfl,_⟩
  ·exact⟨a,c,by rw[hL];rfl⟩
  exact⟨_,c,by rw[hL]⟩
 obtain⟨mo,hmo⟩:=V (p.most);rw[<-hmo]at hV;have Yx:=F hmo;have H8:=F h.six;have HRI:=F<|λW (U:r7 w W)=>xh b A W h ((hs.below U).more U.size) hl (hE.below U) (hN.below U);have HV:=F hV;have HF:=F hF;have HP:=F hp;have HB:=F h;have HS:=F hs;have a2t:=F hraw;have HE:=F hE;have HN:=F hN;obtain⟨W,hw,hsz,c1,c2,c3⟩:=Wu w (aY s r t p.most) (ai A b);have C1:=F c1;have C2:=F c2;have C3:=F c3;have HW:=F hw;have eM:=F hsz;clear c1 c2 c3 hw hsz B hkd Td hnb hL hmo hV hF hp h hs hl hel hraw hE hN;go_enter func15,ntmps15
 go_upto_region 1 with(first|((with_reducible apply bS);refine aM rfl 44 rfl _ _ (tV _) ?_))
 rw[HW.o];by_cases k0:k=0
 ·have g:=F (show Value.agg (vF V')=.agg (bH 1 0 e0) by rw[HV.o,if_pos k0];rfl)
  subst k0
  go_wp2_with (first|(go_at_call 37;refine(W4.o _).m ?_;rintro e w2 ⟨rfl,U⟩;have D:=F<|C3.o.below U;clear U)|((with_reducible apply bS);refine Dn rfl (.tmp 10) (.tmp 20) rfl w (w.heap.size+2) rfl D.o 1 0 e0 rfl rfl ?_;intro w9 i9 t9;have f:=F i9;clear i9 t9))
  exact Ea results15 rfl f.o ⟨by rw[g.o],f.o.bL⟩
 have qk:(k==0)=false:=by simpa using k0
 go_upto_region 4 with(first|(go_at_call 37;refine(W4.o _).m ?_;rintro e w2 ⟨rfl,U⟩;have D:=F<|C3.o.below U;have D2:=F<|C2.o.keep U;have D1:=F<|C1.o.keep U;clear U))
 clear C1 C2 C3 W4 HW;have S4:=F<|HV.o.trans (if_neg k0);clear HV;by_cases hm:mo<(L:Int)
 ·have g:=F (show Value.agg (vF V')=.agg (bH 2 1 e0) by rw[S4.o,if_pos hm];rfl)
  go_wp2_with (first|((with_reducible apply bS);first|refine tY r5 (.tmp 23) rfl w.heap.size 3 24 (aY s r t p.most) D1.o (.int .i64 mo) (by rw[Yx.o];rfl) rfl ?_|(refine Dn rfl (.tmp 10) (.tmp 26) rfl w (w.heap.size+2) rfl T.o 2 1 e0 rfl rfl ?_;intro w9 i9 t9;have f:=F i9;clear i9 t9))|(go_at_call 38;refine(nW 1 _).m ?_;rintro e w3 ⟨rfl,U⟩;have T:=F<|D.o.below U;clear U))
  exact Ea results15 rfl f.o ⟨by rw[g.o],f.o.bL⟩
 have HVM:=F<|S4.o.trans (if_neg hm);clear S4
 go_upto_region 6 with(first|((with_reducible apply bS);refine tY r5 (.tmp 23) rfl w.heap.size 3 24 (aY s r t p.most) D1.o (.int .i64 mo) (by rw[Yx.o];rfl) rfl ?_))
 obtain⟨q,hq⟩:=V (oy b);have HRQ:=F (show ∀W,r7 w W->bF prog 39 #[.agg (ai A b)] W (.bool q)from λW U=>(HRI.o W U).m λe w' ⟨z,Y,I,h3⟩=>⟨by rw[Y,show z=q by rw[hq,bX,I,p7]],h3⟩);have HQ:=F hq;clear hq HRI;cases q with
 |false =>
  have g:=F (show Value.agg (vF V')=.agg (bH 2 2 e0) by rw[HVM.o,if_pos HQ.o.symm];rfl)
  go_wp2_with (first|((with_reducible apply bS);first|refine cR r5 (.tmp 6) rfl (w.heap.size+1) A b H8.o rfl D2.o ?_|(refine Dn rfl (.tmp 10) (.tmp 30) rfl w (w.heap.size+2) rfl F3.o 2 2 e0 rfl rfl ?_;intro w9 i9 t9;have f:=F i9;clear i9 t9))|(go_at_call 39;refine(HRQ.o _ D.o.bL).m ?_;rintro e w3 ⟨rfl,U⟩;have T:=F<|D.o.below U;clear U)|(go_at_call 38;refine(nW 2 _).m ?_;rintro e w4 ⟨rfl,U⟩;have F3:=F<|T.o.below U;clear U))
  exact Ea results15 rfl f.o ⟨by rw[g.o],f.o.bL⟩
 |true =>
  have HVR:=F<|HVM.o.trans (if_neg (by rw[<-HQ.o];simp));have l:=HF.o ((p7 b).mp HQ.o.symm);obtain⟨R,hR⟩:=V (mg k b (jw raw));have Vm:=HVR.o;rw[<-hR]at Vm;have J:=F (show ILk R.items from by rw[hR];exact Pn l)
  have Be:=F<|λW (U:r7 w W)=>(show Calls prog 40 #[.int .i64 k,.agg (ai A b),.slice av L cv] W (jz W R)from by
   rw[hR];exact Du k b A raw _ W H8.o ((HS.o.below U).more U.size) HB.o.b ((a2t.o.below U).more U.size) l.v (HE.o.below U))
  obtain⟨P,j⟩:=V (R.items.filter (jO p k));obtain⟨d,hd⟩:=V (R.delay);rw[<-j,<-hd]at Vm;obtain⟨s2,hs2⟩:=V (kK k P d);rw[<-hs2]at Vm;have HLK:=F (show ILk P from⟨λi hi=>J.o.u i (by rw[j]at hi;exact(a3J.mp hi).1),by have:=dO (jO p k) R.items;have:=J.o.n;rw[j];omega⟩)
  have HKP:=F<|λ(v:Z) W (U:r7 w W) (hI:Items W.heap.size W v R.items)=>(show Calls prog 18 #[.agg (aY s r t p.most),.int .i64 k,.agg (bD v d)] W (jz W ⟨P,d⟩)from by
   rw[j];exact LB p k R.items d v s r t W hI J.o (HP.o.below U) (HE.o.below U) (HN.o.below U))
  obtain⟨ob,Vc⟩:=V (E s2)
  have MZ:=F<|λ(x:Z) W (U:r7 w W) (X:Items W.heap.size W x P)=>(show bF prog 43 #[.int .i64 k,.agg (bD x d)] W (.string ob)from by
   rw[Vc,hs2];exact FC k P x d W X (λi hi=>(HLK.o.u i hi).1.sm) (by rw[j,hR];exact l.m) (by have:=HLK.o.n;omega) (by rw[hd,hR];exact l.d) (HN.o.below U))
  obtain⟨q3,hq3⟩:=V (R.items.any (·.right))
  have HHR:=F<|λ(v:Z) W (hI:Items W.heap.size W v R.items)=>(show bF prog 41 #[v,.func (Fn.func 42) #[] #[]] W (.bool q3)from by
   rw[hq3];exact PH R.items v W hI (λi hi=>(J.o.u i hi).1.six) J.o.n)
  rw[<-hq3]at Vm;have HVL:=F Vm;have TE:=F Vc;obtain⟨M,hM⟩:=V (s2.length);have b4Q:ob.size=M:=by rw[Vc,aF,hM]
  have W7:=F hM;have HD:=F hd;clear l hR Vm j hd hs2 Vc hq3 hM HVM HVR HQ HF a2t HS HB HN HE HP
  go_upto_region 9 with(first|((with_reducible apply bS);first|refine cR r5 (.tmp 6) rfl (w.heap.size+1) A b H8.o rfl D2.o ?_|refine cR r5 (.tmp 6) rfl (w.heap.size+1) A b H8.o rfl E2.o ?_|(refine aM rfl 50 rfl _ _ (pC _) ?_;refine JH rfl (.tmp 12) (.tmp 34) rfl v4 R.delay (fa.one' Kf.o) rfl rfl rfl ?_;intro w5 i5;have I5:=F i5;clear i5))|(go_at_call 39;refine(HRQ.o _ D.o.bL).m ?_;rintro e w3 ⟨rfl,U⟩;have T:=F<|D.o.below U;have E2:=F<|D2.o.keep U;have E1:=F<|D1.o.keep U;clear U)|(go_at_call 40;refine(Be.o _ T.o.bL).m ?_;rintro e w4 ⟨v4,rfl,ir,U⟩;have Kf:=F ir;have F3:=F<|T.o.below U;have F1:=F<|E1.o.keep U;clear U ir))
  obtain⟨g12,ZK⟩:=V (w4.heap.size);rw[<-HD.o,<-ZK]at I5;rw[<-ZK];have G3:=F<|F3.o.below I5.o.bL;have G1:=F<|F1.o.keep I5.o.bL;have NA:=F<|Kf.o.below I5.o.bL;have K5:=F<|I5.o.cb;clear ZK D1 D2 D E1 E2 T F1 F3 Kf HRQ Be;cases q3 with
  |false =>
   have g:=F (show Value.agg (vF V')=.agg (bH 2 3 e0) by rw[HVL.o,if_pos rfl];rfl)
   go_wp2_with (first|((with_reducible apply bS);first|refine yw rfl (.tmp 35) rfl g12 50 (bD v4 d) K5.o 0 v4 rfl rfl ?_|(refine Dn rfl (.tmp 10) (.tmp 39) rfl w (w.heap.size+2) rfl J3.o 2 3 e0 rfl rfl ?_;intro w9 i9 t9;have f:=F i9;clear i9 t9))|(go_at_call 41;refine(HHR.o v4 _ (NA.o.iok J.o)).m ?_;rintro e w6 ⟨rfl,U⟩;have H3:=F<|G3.o.below U;clear U)|(go_at_call 38;refine(nW 3 _).m ?_;rintro e w7 ⟨rfl,U⟩;have J3:=F<|H3.o.below U;clear U))
   exact Ea results15 rfl f.o ⟨by rw[g.o],f.o.bL⟩
  |true =>
   have HV4:=F<|HVL.o.trans (if_neg Oc)
   go_upto_region 11 with(first|((with_reducible apply bS);refine yw rfl (.tmp 35) rfl g12 50 (bD v4 d) K5.o 0 v4 rfl rfl ?_)|(go_at_call 41;refine(HHR.o v4 _ (NA.o.iok J.o)).m ?_;rintro e w6 ⟨rfl,U⟩;have H3:=F<|G3.o.below U;have H1:=F<|G1.o.keep U;have Xd:=F<|NA.o.below U;have K6:=F<|K5.o.keep U;clear U))
   clear G1 G3 NA K5 I5 HHR HVL
   go_upto_region 12 with(first|((with_reducible apply bS);first|refine fj r5 (.tmp 5) rfl w.heap.size s r t p.most rfl H1.o ?_|refine vR r5 50 (.tmp 12) rfl g12 (bD v4 d) _ underlying50 rfl mS rfl K6.o ?_|(refine aM rfl 50 rfl _ _ (pC _) ?_;refine JH rfl (.tmp 13) (.tmp 43) rfl v7 d (fa.one' y.o) rfl rfl rfl ?_;intro w8 i8;have I8:=F i8;clear i8))|(go_at_call 18;refine(HKP.o v4 _ H3.o.bL (Xd.o.iok J.o)).m ?_;rintro e w7 ⟨v7,rfl,ir,U⟩;have y:=F ir;have J3:=F<|H3.o.below U;have J1:=F<|H1.o.keep U;clear U ir))
   obtain⟨g13,a4d⟩:=V (w7.heap.size);rw[<-a4d]at I8 ⊢;have M3:=F<|J3.o.below I8.o.bL;have M1:=F<|J1.o.keep I8.o.bL;have TQ:=F<|y.o.below I8.o.bL;have K8:=F<|I8.o.cb;obtain⟨N,mc⟩:=V (P.length);obtain⟨a7,c7,e7⟩:=y.o.len;rw[<-mc]at e7;have S1:=F mc;subst e7;clear a4d mc J1 J3 H1 H3 Xd y K6 HKP I8;by_cases C:N=0
   ·have hnil:P=[]:=az (by rw[<-S1.o];exact C)
    have g:=F (show Value.agg (vF V')=.agg (bH 2 4 e0) by rw[HV4.o,if_pos hnil];rfl);clear hnil;subst C
    go_wp2_with (first|((with_reducible apply bS);first|refine yw rfl (.tmp 44) rfl g13 50 (bD (.slice a7 0 c7) d) K8.o 0 (.slice a7 0 c7) rfl rfl ?_|(refine Dn rfl (.tmp 10) (.tmp 48) rfl w (w.heap.size+2) rfl N3.o 2 4 e0 rfl rfl ?_;intro w9 i9 t9;have f:=F i9;clear i9 t9))|(go_at_call 38;refine(nW 4 _).m ?_;rintro e x7 ⟨rfl,U⟩;have N3:=F<|M3.o.below U;clear U))
    exact Ea results15 rfl f.o ⟨by rw[g.o],f.o.bL⟩
   have hnn:¬ P=[]:=λe=>C (by rw[S1.o,e];rfl);have qn:(((N:Nat):Int)==0)=false:=by simpa using C
   have HV5:=F<|HV4.o.trans (if_neg hnn);clear hnn HV4
   go_upto_region 15 with(first|((with_reducible apply bS);first|refine yw rfl (.tmp 44) rfl g13 50 (bD (.slice a7 N c7) d) K8.o 0 (.slice a7 N c7) rfl rfl ?_|refine vR r5 50 (.tmp 13) rfl g13 (bD (.slice a7 N c7) d) _ underlying50 rfl mS rfl K8.o ?_)|(go_at_call 43;refine(MZ.o _ _ M3.o.bL (TQ.o.iok HLK.o)).m ?_;rintro e x8 ⟨rfl,U⟩;have N3:=F<|M3.o.below U;have N1:=F<|M1.o.keep U;clear U))
   clear M1 M3 TQ K8 MZ;by_cases hm2:mo<(M:Int)
   ·have g:=F (show Value.agg (vF V')=.agg (bH 2 1 e0) by rw[HV5.o,if_pos (by rw[<-W7.o];exact hm2)];rfl)
    go_wp2_with (first|((with_reducible apply bS);first|refine tY r5 (.tmp 54) rfl w.heap.size 3 24 (aY s r t p.most) N1.o (.int .i64 mo) (by rw[Yx.o];rfl) rfl ?_|(refine Dn rfl (.tmp 10) (.tmp 57) rfl w (w.heap.size+2) rfl O3.o 2 1 e0 rfl rfl ?_;intro w9 i9 t9;have f:=F i9;clear i9 t9))|(go_at_call 38;refine(nW 1 _).m ?_;rintro e x9 ⟨rfl,U⟩;have O3:=F<|N3.o.below U;clear U))
    exact Ea results15 rfl f.o ⟨by rw[g.o],f.o.bL⟩
   have g:=F (show Value.agg (vF V')=.agg (bH 3 0 ob) by rw[HV5.o,if_neg (by rw[<-W7.o];exact hm2),TE.o])
   go_wp2_with (first|((with_reducible apply bS);first|refine tY r5 (.tmp 54) rfl w.heap.size 3 24 (aY s r t p.most) N1.o (.int .i64 mo) (by rw[Yx.o];rfl) rfl ?_|(refine Dn rfl (.tmp 10) (.tmp 59) rfl w (w.heap.size+2) rfl N3.o 3 0 ob rfl rfl ?_;intro w9 i9 t9;have f:=F i9;clear i9 t9)))
   exact Ea results15 rfl f.o ⟨by rw[g.o],f.o.bL⟩

theorem a5O(k y d f:Int)(o a:ByteArray)(w:H):(binOp .eql 44 (.agg (bH k y o)) (.agg (bH d f a))).run prog w=.ok (.bool (decide (k=d)&&decide (y=f)&&decide (o=a))) w:=by
 have c:prog.underlying 44=some (.struct (prog.fieldsOf 44)):=Rz;have hp:prog.stoodInHeld 44=false:=Rz;rw[run_eql_struct,show(10000:Nat)=9999+1 from rfl,run_equalIn_agg w 9999 44 _ _ c hp];simp only[Program.fieldsOf,underlying44]
 have g:(o.toList==a.toList)=decide (o=a):=by
  rw[bX,decide_eq_true_eq,beq_iff_eq];constructor
  ·intro h
   have e:∀ z:ByteArray,z=E z.toList:=λz=>by
    rw[show z.toList=ls z from(zj z)];exact(kt z).symm
   rw[e o,e a,h]
  exact λh=>by rw[h]
 clear c hp;generalize decide (o=a)=q at g ⊢
 go_simp
 repeat' split
 all_goals simp_all
section
variable {ops:Array Oper} {rest:List Oper} {o:Oper} {a:Act} {w:H} {Q:Exit->Act->H->Prop}
theorem O0(h:Region.wanted o (yielded ops a.tmps)=true)(x y:Operand)(i:o.op=.binOp .eql 44 x y 44)(k z c f:Int)(t d:ByteArray)(q:Bool)(j:(decide (k=c)&&decide (z=f)&&decide (t=d))=q)(X:a.eval x=.agg (bH k z t))(hy:a.eval y=.agg (bH c f d))
  (K:wpList prog ops Q rest (a.put o.dst (.bool q)) w):wpList prog ops Q (o::rest) a w:=by
 refine nj h (.bool q) ?_ K;have e:=a5O k z c f t d w;have g:=run_eqGuard_agg (P:=prog) w .eql 44 x y (bH k z t) (bH c f d) Rz;unfold execOp;simp only[i,X,hy,Sem.run_bind,Sem.run_pure,Result.andThen_ok,e,g,j]
theorem eqS(c:Region.wanted o (yielded ops a.tmps)=true)(x y:Operand)(d:o.op=.binOp .eql 44 x y 44){k z:Int}{t:ByteArray}(X:a.eval x=.agg (bH k z t))(hy:a.eval y=.agg (bH k z t))
  (K:wpList prog ops Q rest (a.put o.dst (.bool true)) w):wpList prog ops Q (o::rest) a w :=
 O0 c x y d k z k z t t true Oc X hy K
theorem vB(c:Region.wanted o (yielded ops a.tmps)=true)(x:Operand)(d:o.op=.load 44 x)(b:Nat)(k y:Int)(t:ByteArray)(X:a.eval x=.pointer (some ⟨b,0,none⟩))(i:CB w b 44 (bH k y t))(K:wpList prog ops Q rest (a.put o.dst (.agg (bH k y t))) w):wpList prog ops Q (o::rest) a w :=
 vR c 44 x d b (bH k y t) _ underlying44 rfl xi X i K
theorem newV{W:H}(c:o.guard=none)(x y:Operand)(f:o.op=.store 44 x y)(k z:Int)(t:ByteArray)(e:W=w.alloc (.cells (bH 0 0 e0) 44))(X:a.eval x=.pointer (some ⟨w.heap.size,0,none⟩))(hy:a.eval y=.agg (bH k z t))
  (K:∀ d,CB d w.heap.size 44 (bH k z t)->r7 w d->wpList prog ops Q rest (a.put o.dst undef) d):wpList prog ops Q (o::rest) a W :=
 jG c _ x y f (bH k z t) (bH 0 0 e0) xi rfl (all_oneCell_toArray (SG k z t)) e X hy K
theorem bw1(c:Region.wanted o (yielded ops a.tmps)=true)(d:o.op=.build 44 #[(0,.const (.int .i64 1))])(K:wpList prog ops Q rest (a.put o.dst (.agg (bH 1 0 e0))) w):wpList prog ops Q (o::rest) a w :=
 jl c _ _ d _ #[(0,.int .i64 1)] (by simp[Act.eval]) Od K
theorem bw2{y:Int}(c:Region.wanted o (yielded ops a.tmps)=true)(d:o.op=.build 44 #[(0,.const (.int .i64 2)),(1,.const (.int .i64 y))])(K:wpList prog ops Q rest (a.put o.dst (.agg (bH 2 y e0))) w):wpList prog ops Q (o::rest) a w :=
 jl c _ _ d _ #[(0,.int .i64 2),(1,.int .i64 y)] (by simp[Act.eval]) (xZ y) K
theorem bw3{t:ByteArray}(c:Region.wanted o (yielded ops a.tmps)=true)(d:o.op=.build 44 #[(0,.const (.int .i64 3)),(2,.const (.string t))])(K:wpList prog ops Q rest (a.put o.dst (.agg (bH 3 0 t))) w):wpList prog ops Q (o::rest) a w :=
 jl c _ _ d _ #[(0,.int .i64 3),(2,.string t)] (by simp[Act.eval]) (Ip t) K
end
structure M4 (w W:H) (g1 g3:Nat) (A sv hv:Z) (L:List (Nat×Vrd)):Prop where
 b:r7 w W
 e:Env W
 n:NE W
 u:CB W g1 34 (ai A jP)
 p:CB W g3 24 (aY sv hv aI 60)
 s:Sl W.heap.size W A (jP.path.map S)
 a:b6w W sv hv aI wL
 l:∀ x∈L,CB W x.1 44 (vF x.2)
section
variable {w W:H} {g1 g3:Nat} {A sv hv:Z} {L:List (Nat×Vrd)}
theorem M4.below{c:H}(h:M4 w W g1 g3 A sv hv L)(U:r7 W c):M4 w c g1 g3 A sv hv L :=
 ⟨h.b.trans (U.m h.b.size),h.e.below U,h.n.below U,h.u.keep U,h.p.keep U,(h.s.below U).more U.size,h.a.below U,λx X=>(h.l x X).keep U⟩
theorem M4.push(h:M4 w W g1 g3 A sv hv L){g:Nat}(c:CB W g 44 (vF V')):M4 w W g1 g3 A sv hv ((g,V')::L) :=
 ⟨h.b,h.e,h.n,h.u,h.p,h.s,h.a,λx X=>by
  rcases aK.mp X with rfl|X
  ·exact c
  exact h.l x X⟩
theorem M4.at(h:M4 w W g1 g3 A sv hv L)(i:Nat){g:Nat}(e:L[i]? = some (g,V')):CB W g 44 (vF V'):=h.l _ (List.mem_of_getElem? e)
theorem exK{p:List (Nat×Vrd)->Prop}{L:List (Nat×Vrd)}(h:p L):∃ c,L=c/\p c:=⟨L,rfl,h⟩
theorem a5C:dA jP true=[104,116,116,112,58,47,47,104,47,97,47,98]:=Rz
structure a1j (b:Url) (el nm raw:O) (V':Vrd):Prop where
 o:zK b
 c:b=jP\/b=U0
 h:dQ wL b el nm raw=V'
theorem a1h(h:M4 w W g1 g3 A sv hv L){b:Url}{j:Z}(s:Sl W.heap.size W j (b.path.map S)){f g raw:O}{k:Z}(r:Sl W.heap.size W k (Lib.byteCells raw))(i:a1j b f g raw V')(q:raw.length<=300/\f.length<=300/\g.length<=300) :
  Calls prog 15 #[.agg (aY sv hv aI 60),.agg (ai j b),.string (E f),.string (E g),k] W λe l=>e=.returned (.agg (vF V'))/\M4 w l g1 g3 A sv hv L/\r7 W l:=by
 have d:=i.c
 have p:=vr wL b f g raw k sv hv aI j W h.a i.o s (by rcases d with rfl|rfl <;>decide +kernel) ⟨M0,M0⟩ r (λe=>by
  rcases d with rfl|rfl
  ·exact vw wL (T:=300) ⟨M0,M0⟩ (by rw[a5C];decide) e q.1
  exact absurd e (by rw[show eF (dA U0 true)=none by kernel_rfl];simp)) h.e h.n
 rw[i.h]at p;exact p.m (λe l ⟨Y,I⟩=>⟨Y,h.below I,I⟩)
end
def rOf(C:Array Z):O:=C.toList.map λ
 | .int .u8 n=>UInt8.ofNat n.toNat
 |_=>0
section
variable {ops:Array Oper} {rest:List Oper} {o:Oper} {a:Act} {w W:H} {Q:Exit->Act->H->Prop} {g1 g3:Nat} {A sv hv:Z} {L:List (Nat×Vrd)}
theorem a4M(e:o.guard=none)(x:Operand)(f:o.op=.convert 46 46 x){C:Array Z}{n:Nat}(g:(Lib.byteCells (rOf C)).toArray=C)(d:(rOf C).length=n/\n<=100)(h:M4 w W g1 g3 A sv hv L)(X:a.eval x=.slice (some ⟨W.heap.size,0,none⟩) n n)
  (K:∀ c,M4 w c g1 g3 A sv hv L->Sl c.heap.size c (.slice (some ⟨W.heap.size,0,none⟩) n n) (Lib.byteCells (rOf C))->wpList prog ops Q rest (a.put o.dst (.slice (some ⟨W.heap.size,0,none⟩) n n)) c):wpList prog ops Q (o::rest) a (W.alloc (.cells C 5)):=by
 refine iq e _ _ x f _ X (k7 C n W) (K _ (h.below ((Below.refl _ _).alloc (ag _) _)) ?_);have s:=lh (rOf C) W (am (d.1▸d.2) P8) (C.size,C.size+1);rw[g,d.1]at s;exact s
theorem a41(e:o.guard=none)(x y:Operand)(f:o.op=.store 44 x y)(h:M4 w W g1 g3 A sv hv L)(X:a.eval x=.pointer (some ⟨W.heap.size,0,none⟩))(hy:a.eval y=.agg (vF V'))
  (K:∀ d,M4 w d g1 g3 A sv hv ((W.heap.size,V')::L)->wpList prog ops Q rest (a.put o.dst undef) d):wpList prog ops Q (o::rest) a (W.alloc (.cells (bH 0 0 e0) 44)) :=
 newV e x y f V'.kind V'.why (E V'.o) rfl X hy (λd c b=>K d ((h.below b).push c))
end
theorem b0f:∀ w,(Instr.makeSlice 46 (.int .i64 61) (.int .i64 61)).run prog w=.ok (.slice (some ⟨w.heap.size,0,none⟩) 61 61) (w.alloc (.cells (Lib.byteCells (List.replicate 61 0)).toArray 5)):=λw=>Rz
section
variable {o:Oper} {a:Act} {w:H} {Q:Exit->Act->H->Prop} {K:Act->H->Prop}
theorem Jp(c:o.op=.makeSlice 46 (.const (.int .i64 61)) (.const (.int .i64 61)))(h:K (a.put o.dst (.slice (some ⟨w.heap.size,0,none⟩) 61 61)) (w.alloc (.cells (Lib.byteCells (List.replicate 61 0)).toArray 5))):Oper.wp prog o a w K Q:=by
 unfold Oper.wp execOp;simp only[c,Act.eval,Sem.run_bind,Sem.run_pure,Result.andThen_ok,b0f];exact h
theorem EO(c:o.op=.alloc 44)(h:K (a.put o.dst (.pointer (some ⟨w.heap.size,0,none⟩))) (w.alloc (.cells (bH 0 0 e0) 44))):Oper.wp prog o a w K Q:=by
 unfold Oper.wp execOp;simp only[c,Sem.run_bind,Sem.run_pure,Result.andThen_ok,tV];exact h
theorem AB(x y:Operand)(d:o.op=.store 44 x y)(w0:H)(b:Nat)(i:OB w0 b 44 (bH 0 0 e0) w)(k z:Int)(t:ByteArray)(X:a.eval x=.pointer (some ⟨b,0,none⟩))(hy:a.eval y=.agg (bH k z t))
  (h:∀ c,OB w0 b 44 (bH k z t) c->Tn b w c->K (a.put o.dst undef) c):Oper.wp prog o a w K Q :=
 j5 _ x y d w0 b 44 (bH 0 0 e0) i 0 [.int .i64 k,.int .i64 z,.string t] X hy (ag 3) xi (SG k z t) (bH k z t) rfl h
end
theorem Y3(w:H):(Instr.alloc 24 true (Value.tuple #[])).run prog w=.ok (.pointer (some ⟨w.heap.size,0,none⟩)) (w.alloc (.cells (aY aI aI aI 0) 24)):=Rz
theorem VV{sv hv c:Z}{m:Int}(Y:sv.oneCell'=true)(I:hv.oneCell'=true)(d:c.oneCell'=true):∀ u ∈ [sv,hv,c,.int .i64 m],u.oneCell'=true:=by
 intro u hu;simp only[aK,cV,or_false]at hu;rcases hu with rfl|rfl|rfl|rfl
 ·exact Y
 ·exact I
 ·exact d
 rfl
section
variable {ops:Array Oper} {rest:List Oper} {o:Oper} {a:Act} {w:H} {Q:Exit->Act->H->Prop}
theorem a0u{W:H}(d:o.guard=none)(x y:Operand)(h:o.op=.store 24 x y)(sv hv c:Z)(m:Int)(Y:sv.oneCell'=true)(I:hv.oneCell'=true)(f:c.oneCell'=true)(g:W=w.alloc (.cells (aY aI aI aI 0) 24))(X:a.eval x=.pointer (some ⟨w.heap.size,0,none⟩))(hy:a.eval y=.agg (aY sv hv c m))
  (K:∀ e,CB e w.heap.size 24 (aY sv hv c m)->r7 w e->wpList prog ops Q rest (a.put o.dst undef) e):wpList prog ops Q (o::rest) a W :=
 jG d _ x y h (aY sv hv c m) (aY aI aI aI 0) wn rfl (all_oneCell_toArray (VV Y I f)) g X hy K
end
theorem DM(w:H)(hE:Env w)(hN:NE w):bF prog 16 #[] w (.bool true):=by
 have hp:=xg [104,116,116,112,58,47,47,104,47,97,47,98] w P8 hE;rw[srP]at hp;have HP:=F (show Calls prog 21 #[.string ⟨#[104,116,116,112,58,47,47,104,47,97,47,98]⟩] w λe w'=>∃ A,e=.returned (.tuple #[.agg (ai A jP),.bool true])/\w'.ownsRow w.heap.size 9 1 A jP.path.length (Strs jP.path)/\r7 w w' from hp);have HE:=F hE;have HN:=F hN;clear hp hE hN;have Fa:=a1j.mk tN (.inl rfl) a5t;have Fc:=a1j.mk tN (.inl rfl) a5u;have Fd:=a1j.mk tN (.inl rfl) a5v;have Fe:=a1j.mk tN (.inl rfl) a5w;have Ff:=a1j.mk tN (.inl rfl) a5x;have M:=a1j.mk tN (.inl rfl) a5y;have Fh:=a1j.mk Xh (.inr rfl) a5z;have Fi:=a1j.mk tN (.inl rfl) a5A;have Fk:=a1j.mk tN (.inl rfl) a5B;go_enter func16,ntmps16
 go_upto_region 4 with(first|(go_at_call 21;refine(HP.o).m ?_;rintro e w1 ⟨A,rfl,oo,U⟩;have O1:=F oo;have B1:=F U;clear oo U)|((with_reducible apply bS);refine aM rfl 34 rfl _ _ (eD _) ?_;refine fL rfl (.tmp 1) (.tmp 15) rfl A jP rfl (bm O1.o) rfl rfl rfl ?_;intro w2 I U;have U2:=F I;have B2:=F<|B1.o.trans (U.m B1.o.size);have O2:=F<|own_below' O1.o U;clear U I))
 clear B1 O1 HP;obtain⟨g1,y⟩:=V (w1.heap.size);rw[<-y]at U2 ⊢;clear y
 go_upto_region 5 with(first|((with_reducible apply bS);first|(refine Oh r5 (.const (.string ⟨#[104,116,116,112]⟩)) rfl [104,116,116,112] rfl ?_;intro ba w3 U B;have B3:=F<|dw B2.o U;have U3:=F<|U2.o.keep U;have O3:=F<|own_below' O2.o U;have t:=F B;clear U B)|(refine Oh r5 (.const (.string ⟨#[42]⟩)) rfl [42] rfl ?_;intro bc w4 U B;have D:=F<|dw B3.o U;have U4:=F<|U3.o.keep U;have O4:=F<|own_below' O3.o U;have v:=F<|(t.o.below U).more U.size;have q:=F B;clear U B)|(refine aM rfl 24 rfl _ _ (Y3 _) ?_;refine a0u rfl (.tmp 3) (.tmp 21) rfl (.slice (some ⟨ba,0,none⟩) 1 1) (.slice (some ⟨bc,0,none⟩) 1 1) aI 60 rfl rfl rfl rfl rfl rfl ?_;intro w5 h5 U;have P5:=F h5;have j:=F U;clear h5 U)))
 obtain⟨g3,z⟩:=V (w4.heap.size);rw[<-z]at P5 ⊢;have J:=F (show M4 w w5 g1 g3 A (.slice (some ⟨ba,0,none⟩) 1 1) (.slice (some ⟨bc,0,none⟩) 1 1) []from⟨dw D.o j.o,HE.o.below (dw D.o j.o),HN.o.below (dw D.o j.o),U4.o.keep j.o,P5.o,(Sl.ew (sB (own_below' O4.o j.o))),⟨(v.o.below j.o).more j.o.size,(q.o.below j.o).more j.o.size,Sl.nil,P8,P8⟩,λx X=>by cases X⟩);clear z B2 B3 D U2 U3 U4 O2 O3 O4 t v q P5 j HE HN;generalize (Value.slice (some ⟨ba,0,none⟩) 1 1)=sv at J ⊢;generalize (Value.slice (some ⟨bc,0,none⟩) 1 1)=hv at J ⊢
 go_upto_region 10 with(first|((with_reducible apply bS);first|refine fj r5 _ rfl g3 sv hv aI 60 rfl J.o.p ?_|refine cR r5 _ rfl g1 A jP rfl rfl J.o.u ?_|(refine a4M rfl _ rfl Rz P8 J.o rfl ?_;clear J;intro C k s;have J:=F k;have i:=F s;clear k s)|(refine aM rfl 44 rfl _ _ (tV _) ?_;refine a41 rfl _ _ rfl J.o rfl rfl ?_;clear J;intro w7 k;generalize C.heap.size=g at k ⊢;have J:=F k;clear k))|(go_at_call 15;(first|refine(a1h J.o J.o.s i.o Fa P8).m ?_|refine(a1h J.o J.o.s i.o Fc P8).m ?_|refine(a1h J.o J.o.s i.o Fd P8).m ?_|refine(a1h J.o J.o.s i.o Fe P8).m ?_|refine(a1h J.o J.o.s i.o Ff P8).m ?_);clear J i;rintro e C ⟨rfl,k,U⟩;have J:=F k;clear k U))
 obtain⟨L,hL,k⟩:=exK J.o;clear J;have J:=F k;clear k;simp only[Act.put,fH,fI,fJ]
 go_cut [9]from 47 to 50 (λv9 wx=>∃ g9:Nat,v9=.pointer (some ⟨g9,0,none⟩)/\Hid (M4 w wx g1 g3 A sv hv ((g9,iu 1)::L)))
 case first =>
  refine wp_region_held_drew (S:=λW=>M4 w W g1 g3 A sv hv L) Rz (by first|exact J.o|exact J.o.below (bG (bg _))) (λhHeld=>?_);refine tq 0 rfl ?_ (λwS hSw=>?_) ?_;rotate_left
  ·(try dsimp only at hSw)
   refine je 24 (.tmp 3) ?_ g3 (aY sv hv aI 60) _ underlying24 rfl wn ?_ ?_
   ·rfl
   ·rfl
   exact hSw.p
  try simp only[Act.put,fH,fI,fJ]
  refine tq 1 rfl ?_ (λwS hSw=>?_) ?_;rotate_left
  ·(try dsimp only at hSw)
   refine q8 (.tmp 1) ?_ g1 A jP rfl ?_ ?_
   ·rfl
   ·rfl
   exact hSw.u
  try simp only[Act.put,fH,fI,fJ]
  refine rn2 2 4 Rz rfl r5 ?_ rfl r5 ?_
  ·intro K hK
   refine Jp rfl ?_;generalize w7.drew=wd at hHeld ⊢;have s:=lh (List.replicate 61 0) wd P8 (0,0);have k:=hHeld.below ((Below.refl _ _).alloc (ag _) (.cells (Lib.byteCells (List.replicate 61 0)).toArray 5));generalize wd.alloc (.cells (Lib.byteCells (List.replicate 61 0)).toArray 5)=l at k s ⊢;have r:=F k;have J:=F k;have n:=F s;clear k s;refine hK.out _ _ ?_ (λhHeld=>?_)
   ·first|exact J.o|exact J.o.below (bG (bg _))
   clear hK K
   try simp only[Act.put,fH,fI,fJ]
   refine rn2 3 4 Rz rfl r5 ?_ rfl r5 ?_
   ·intro K hK
    go_simp
    refine(a1h J.o J.o.s n.o M P8).m ?_;rintro e JO ⟨rfl,k,_⟩;have J:=F k;have r:=F k;clear k;refine hK.out _ _ ?_ (λhHeld=>?_)
    ·first|exact J.o|exact J.o.below (bG (bg _))
    clear hK K;refine rn 4 Rz rfl r5 (λK hK=>?_);refine EO rfl ?_;have i20:=OB.fresh JO 44 (bH 0 0 e0);generalize JO.alloc (.cells (bH 0 0 e0) 44)=f at i20 ⊢;have J:=F<|J.o.below i20.bL;have c:=F i20;clear i20;refine hK.out _ _ ?_ (λhHeld=>?_)
    ·first|exact J.o|exact J.o.below (bG (bg _))
    clear hK K
    try simp only[Act.put,fH,fI,fJ]
    refine rn 5 Rz rfl r5 (λK hK=>?_);refine AB (.tmp 9) (.tmp 50) rfl _ _ c.o 2 1 ⟨#[]⟩ rfl rfl (λN d _=>?_);have J:=F<|r.o.below d.bL;have h:=F d.cb;refine hK.out _ _ ?_ (λhHeld=>?_)
    ·first|exact J.o|exact J.o.below (bG (bg _))
    clear hK K
    try simp only[Act.put]
    refine wpAnyH_done Rz ?_ _;go_wp2_with fail
    go_meet
    exact⟨_,rfl,F (J.o.push h.o)⟩
   intro K hK;refine EO rfl ?_;have i20:=OB.fresh l 44 (bH 0 0 e0);generalize l.alloc (.cells (bH 0 0 e0) 44)=f at i20 ⊢;have J:=F<|J.o.below i20.bL;have n:=F<|(n.o.below i20.bL).more i20.bL.size;have c:=F i20;clear i20;refine hK.out _ _ ?_ (λhHeld=>?_)
   ·first|exact J.o|exact J.o.below (bG (bg _))
   clear hK K
   try simp only[Act.put,fH,fI,fJ]
   refine rn 3 Rz rfl r5 (λK hK=>?_)
   go_simp
   refine(a1h J.o J.o.s n.o M P8).m ?_;rintro e N ⟨rfl,k,U⟩;have J:=F k;have c:=F<|c.o.below U;clear k U;refine hK.out _ _ ?_ (λhHeld=>?_)
   ·first|exact J.o|exact J.o.below (bG (bg _))
   clear hK K;refine rn 5 Rz rfl r5 (λK hK=>?_);refine AB (.tmp 9) (.tmp 50) rfl _ _ c.o 2 1 ⟨#[]⟩ rfl rfl (λN d _=>?_);have J:=F<|r.o.below d.bL;have h:=F d.cb;refine hK.out _ _ ?_ (λhHeld=>?_)
   ·first|exact J.o|exact J.o.below (bG (bg _))
   clear hK K
   try simp only[Act.put]
   refine wpAnyH_done Rz ?_ _;go_wp2_with fail
   go_meet
   exact⟨_,rfl,F (J.o.push h.o)⟩
  intro K hK;refine EO rfl ?_;generalize w7.drew=wd at hHeld ⊢;have r:=F hHeld;have i20:=OB.fresh wd 44 (bH 0 0 e0);generalize wd.alloc (.cells (bH 0 0 e0) 44)=f at i20 ⊢;have J:=F<|hHeld.below i20.bL;have c:=F i20;clear i20;refine hK.out _ _ ?_ (λhHeld=>?_)
  ·first|exact J.o|exact J.o.below (bG (bg _))
  clear hK K
  try simp only[Act.put,fH,fI,fJ]
  refine rn 2 Rz rfl r5 (λK hK=>?_);refine Jp rfl ?_;have s:=lh (List.replicate 61 0) f P8 (0,0);have U:=(Below.refl f.heap.size f).alloc (ag _) (.cells (Lib.byteCells (List.replicate 61 0)).toArray 5);generalize f.alloc (.cells (Lib.byteCells (List.replicate 61 0)).toArray 5)=l at U s ⊢;have n:=F s;have J:=F<|J.o.below U;have c:=F<|c.o.below U;clear s U;refine hK.out _ _ ?_ (λhHeld=>?_)
  ·first|exact J.o|exact J.o.below (bG (bg _))
  clear hK K
  try simp only[Act.put,fH,fI,fJ]
  refine rn 3 Rz rfl r5 (λK hK=>?_)
  go_simp
  refine(a1h J.o J.o.s n.o M P8).m ?_;rintro e N ⟨rfl,k,U⟩;have J:=F k;have c:=F<|c.o.below U;clear k U;refine hK.out _ _ ?_ (λhHeld=>?_)
  ·first|exact J.o|exact J.o.below (bG (bg _))
  clear hK K;refine rn 5 Rz rfl r5 (λK hK=>?_);refine AB (.tmp 9) (.tmp 50) rfl _ _ c.o 2 1 ⟨#[]⟩ rfl rfl (λN d _=>?_);have J:=F<|r.o.below d.bL;have h:=F d.cb;refine hK.out _ _ ?_ (λhHeld=>?_)
  ·first|exact J.o|exact J.o.below (bG (bg _))
  clear hK K
  try simp only[Act.put]
  refine wpAnyH_done Rz ?_ _;go_wp2_with fail
  go_meet
  exact⟨_,rfl,F (J.o.push h.o)⟩
 clear J;obtain⟨g9,rfl,J⟩:=hcut;subst hL
 go_upto_region 14 with(first|((with_reducible apply bS);first|refine fj r5 _ rfl g3 sv hv aI 60 rfl J.o.p ?_|refine cR r5 _ rfl g1 A jP rfl rfl J.o.u ?_|(refine a4M rfl _ rfl Rz P8 J.o rfl ?_;clear J;intro C k s;have J:=F k;have i:=F s;clear k s)|(refine aM rfl 44 rfl _ _ (tV _) ?_;refine a41 rfl _ _ rfl J.o rfl rfl ?_;clear J;intro w7 k;generalize C.heap.size=g at k ⊢;have J:=F k;clear k))|(go_at_call 15;(first|refine(a1h J.o Sl.nil i.o Fh P8).m ?_|refine(a1h J.o J.o.s i.o Fi P8).m ?_|refine(a1h J.o J.o.s i.o Fk P8).m ?_);clear J i;rintro e C ⟨rfl,k,U⟩;have J:=F k;clear k U))
 have A4:=F (show CB _ _ _ (bH 2 4 ⟨#[]⟩)from J.o.at 8 rfl);have A5:=F (show CB _ _ _ (bH 3 0 ⟨#[104,116,116,112,58,47,47,104,47,99,38,35,51,57,59,38,97,109,112,59,100]⟩)from J.o.at 7 rfl);have A6:=F (show CB _ _ _ (bH 3 0 ⟨#[104,116,116,112,58,47,47,104,47,97,47,113,32,50,120]⟩)from J.o.at 6 rfl);have A7:=F (show CB _ _ _ (bH 3 0 ⟨#[55,59,32,117,114,108,61,104,116,116,112,58,47,47,104,47,97,47,122]⟩)from J.o.at 5 rfl);have A8:=F (show CB _ _ _ (bH 1 0 ⟨#[]⟩)from J.o.at 4 rfl);have A9:=F (show CB _ _ _ (bH 2 1 ⟨#[]⟩)from J.o.at 3 rfl);have P:=F (show CB _ _ _ (bH 2 2 ⟨#[]⟩)from J.o.at 2 rfl);have R:=F (show CB _ _ _ (bH 2 3 ⟨#[]⟩)from J.o.at 1 rfl);have T:=F (show CB _ _ _ (bH 2 1 ⟨#[]⟩)from J.o.at 0 rfl);have JB:=F J.o.b;clear J Fa Fc Fd Fe Ff M Fh Fi Fk
 go_wp2_with (first|((with_reducible apply bS);first|refine vB r5 (.tmp 4) rfl _ _ _ _ rfl A4.o ?_|refine vB r5 (.tmp 5) rfl _ _ _ _ rfl A5.o ?_|refine vB r5 (.tmp 6) rfl _ _ _ _ rfl A6.o ?_|refine vB r5 (.tmp 7) rfl _ _ _ _ rfl A7.o ?_|refine vB r5 (.tmp 8) rfl _ _ _ _ rfl A8.o ?_|refine vB r5 (.tmp 9) rfl _ _ _ _ rfl A9.o ?_|refine vB r5 (.tmp 10) rfl _ _ _ _ rfl P.o ?_|refine vB r5 (.tmp 11) rfl _ _ _ _ rfl R.o ?_|refine vB r5 (.tmp 12) rfl _ _ _ _ rfl T.o ?_|refine bw1 r5 rfl ?_|refine bw2 r5 rfl ?_|refine bw3 r5 rfl ?_|refine eqS r5 _ _ rfl rfl rfl ?_))
 go_ret;exact⟨rfl,JB.o⟩
