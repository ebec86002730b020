/- Joined texts. -/
import Derived.Test.YtajblocgpkpmeaaGreatDoorSGPolA
import Derived.Test.YtajblocgpkpmeaaGreatDoorSGMapK
set_option maxHeartbeats 40000000
namespace Go.Proofs.YtajblocgpkpmeaaGreatDoor
open Tryz
open Go.RowKit
set_option maxRecDepth 10000
variable{W':H}{V':M9}
theorem Wu(w:H)(d e:Array Z):∃ W,((w.alloc (.cells d 24)).alloc (.cells e 34)).alloc (.cells (bH 0 0 e0) 44)=W/\W.heap.size=w.heap.size+3 /\
  CB W w.heap.size 24 d/\CB W (w.heap.size+1) 34 e/\OB w (w.heap.size+2) 44 (bH 0 0 e0) W:=by
 obtain⟨w2,I,z2,f,a2,G⟩:=qd w 24 34 d e;have a3:=CB.new w2 44 (bH 0 0 e0);have c:=(Below.refl w2.heap.size w2).alloc (ag _) (.cells (bH 0 0 e0) 44);obtain⟨w3,a⟩:=V (w2.alloc (.cells (bH 0 0 e0) 44));have z3:w3.heap.size=w2.heap.size+1:=by rw[a];simp
 rw[<-a]at a3 c;rw[z2]at a3;exact⟨w3,by rw[I,a],M0,f.keep c,a2.keep c,OB.of a3 M0 (dw G c)⟩
theorem fa.iok{W:H}{base:Nat}{v:Z}{l:List eu}(c:fa W base v l)(h:ILk l):Items W.heap.size W v l:=c.items λi hi=>(h.u i hi).1.ok
theorem Pn{p:qh}{kind:Int}{b:Url}{l:O}(h:Tj p kind b l):ILk (mg kind b (jw l)).items:=⟨h.u,h.n⟩
theorem vr(p:qh)(b:Url)(P Q raw:O)(rv s r t A:Z)(w:H)(hp:b6w w s r t p)(h:zK b)(hs:Sl w.heap.size w A (b.path.map S))(hl:(dA b true).length<=1048576)(hel:P.length<=1000000/\Q.length<=1000000)
  (hraw:Sl w.heap.size w rv (Lib.byteCells raw)) (hF:eF (dA b true)=some b->Tj p (gA P Q) b raw) (hE:Env w) (hN:NE w) :
  bF prog 17 #[.agg (aY s r t p.most),.agg (ai A b),.string (E P),.string (E Q),rv] w (.agg (vF (dQ p b P Q raw))):=by
 obtain⟨V',hV⟩:=V (dQ p b P Q raw);rw[<-hV];unfold dQ at hV;have B:=λW=>Dc P Q W hel.1 hel.2;obtain⟨l,hkd⟩:=V (gA P Q);rw[<-hkd]at hV hF B;obtain⟨eb,Td⟩:=V (E P);obtain⟨nb,hnb⟩:=V (E Q);rw[<-Td,<-hnb]at B ⊢;have W4:=F B;obtain⟨L,hL⟩:=V (raw.length);rw[<-hL]at hV
 obtain⟨av,cv,rfl⟩:∃ a c,rv=.slice a L c:=by
  rcases AU hraw with⟨rfl,a,c,rfl⟩|⟨b,o,c,_,_,rfl,_⟩
  ·exact⟨a,c,by rw[hL];rfl⟩
  exact⟨_,c,by rw[hL]⟩
 obtain⟨mo,hmo⟩:=V (p.most);rw[<-hmo]at hV;have Yx:=F hmo;have H8:=F h.six;have HRI:=F<|λW (U:r7 w W)=>xh b A W h ((hs.below U).more U.size) hl (hE.below U) (hN.below U);have HV:=F hV;have HF:=F hF;have HP:=F hp;have HB:=F h;have HS:=F hs;have a2t:=F hraw;have HE:=F hE;have HN:=F hN;obtain⟨W,hw,hsz,c1,c2,c3⟩:=Wu w (aY s r t p.most) (ai A b);have C1:=F c1;have C2:=F c2;have C3:=F c3;have HW:=F hw;have eM:=F hsz;clear c1 c2 c3 hw hsz B hkd Td hnb hL hmo hV hF hp h hs hl hel hraw hE hN;go_enter func17,ntmps17
 go_upto_region 1 with(first|((with_reducible apply bS);refine aM rfl 44 rfl _ _ (tV _) ?_))
 rw[HW.o];by_cases k0:l=0
 ·have j:=F (show Value.agg (vF V')=.agg (bH 1 0 e0) by rw[HV.o,if_pos k0];rfl)
  subst k0
  go_wp2_with (first|(go_at_call 19;refine(W4.o _).m ?_;rintro e w2 ⟨rfl,U⟩;have J:=F<|C3.o.below U;clear U)|((with_reducible apply bS);refine Dn rfl (.tmp 10) (.tmp 20) rfl w (w.heap.size+2) rfl J.o 1 0 e0 rfl rfl ?_;intro w9 i9 t9;have f:=F i9;clear i9 t9))
  exact Ea results17 rfl f.o ⟨by rw[j.o],f.o.bL⟩
 have qk:(l==0)=false:=by simpa using k0
 go_upto_region 4 with(first|(go_at_call 19;refine(W4.o _).m ?_;rintro e w2 ⟨rfl,U⟩;have J:=F<|C3.o.below U;have D2:=F<|C2.o.keep U;have D1:=F<|C1.o.keep U;clear U))
 clear C1 C2 C3 W4 HW;have S4:=F<|HV.o.trans (if_neg k0);clear HV;by_cases hm:mo<(L:Int)
 ·have j:=F (show Value.agg (vF V')=.agg (bH 2 1 e0) by rw[S4.o,if_pos hm];rfl)
  go_wp2_with (first|((with_reducible apply bS);first|refine tY r5 (.tmp 23) rfl w.heap.size 3 24 (aY s r t p.most) D1.o (.int .i64 mo) (by rw[Yx.o];rfl) rfl ?_|(refine Dn rfl (.tmp 10) (.tmp 26) rfl w (w.heap.size+2) rfl T.o 2 1 e0 rfl rfl ?_;intro w9 i9 t9;have f:=F i9;clear i9 t9))|(go_at_call 49;refine(nW 1 _).m ?_;rintro e w3 ⟨rfl,U⟩;have T:=F<|J.o.below U;clear U))
  exact Ea results17 rfl f.o ⟨by rw[j.o],f.o.bL⟩
 have HVM:=F<|S4.o.trans (if_neg hm);clear S4
 go_upto_region 6 with(first|((with_reducible apply bS);refine tY r5 (.tmp 23) rfl w.heap.size 3 24 (aY s r t p.most) D1.o (.int .i64 mo) (by rw[Yx.o];rfl) rfl ?_))
 obtain⟨q,hq⟩:=V (oy b);have HRQ:=F (show ∀W,r7 w W->bF prog 50 #[.agg (ai A b)] W (.bool q)from λW U=>(HRI.o W U).m λe w' ⟨z,Y,I,h3⟩=>⟨by rw[Y,show z=q by rw[hq,bX,I,p7]],h3⟩);have HQ:=F hq;clear hq HRI;cases q with
 |false =>
  have j:=F (show Value.agg (vF V')=.agg (bH 2 2 e0) by rw[HVM.o,if_pos HQ.o.symm];rfl)
  go_wp2_with (first|((with_reducible apply bS);first|refine cR r5 (.tmp 6) rfl (w.heap.size+1) A b H8.o rfl D2.o ?_|(refine Dn rfl (.tmp 10) (.tmp 30) rfl w (w.heap.size+2) rfl F3.o 2 2 e0 rfl rfl ?_;intro w9 i9 t9;have f:=F i9;clear i9 t9))|(go_at_call 50;refine(HRQ.o _ J.o.bL).m ?_;rintro e w3 ⟨rfl,U⟩;have T:=F<|J.o.below U;clear U)|(go_at_call 49;refine(nW 2 _).m ?_;rintro e w4 ⟨rfl,U⟩;have F3:=F<|T.o.below U;clear U))
  exact Ea results17 rfl f.o ⟨by rw[j.o],f.o.bL⟩
 |true =>
  have HVR:=F<|HVM.o.trans (if_neg (by rw[<-HQ.o];simp));have k:=HF.o ((p7 b).mp HQ.o.symm);obtain⟨R,hR⟩:=V (mg l b (jw raw));have Vm:=HVR.o;rw[<-hR]at Vm;have K:=F (show ILk R.items from by rw[hR];exact Pn k)
  have Be:=F<|λW (U:r7 w W)=>(show Calls prog 20 #[.int .i64 l,.agg (ai A b),.slice av L cv] W (jz W R)from by
   rw[hR];exact Du l b A raw _ W H8.o ((HS.o.below U).more U.size) HB.o.b ((a2t.o.below U).more U.size) k.v (HE.o.below U))
  obtain⟨D,g⟩:=V (R.items.filter (jO p l));obtain⟨d,hd⟩:=V (R.delay);rw[<-g,<-hd]at Vm;obtain⟨s2,hs2⟩:=V (kK l D d);rw[<-hs2]at Vm;have HLK:=F (show ILk D from⟨λi hi=>K.o.u i (by rw[g]at hi;exact(a3J.mp hi).1),by have:=dO (jO p l) R.items;have:=K.o.n;rw[g];omega⟩)
  have HKP:=F<|λ(v:Z) W (U:r7 w W) (hI:Items W.heap.size W v R.items)=>(show Calls prog 31 #[.agg (aY s r t p.most),.int .i64 l,.agg (bD v d)] W (jz W ⟨D,d⟩)from by
   rw[g];exact Z3 p l R.items d v s r t W hI K.o (HP.o.below U) (HE.o.below U) (HN.o.below U))
  obtain⟨ob,Vc⟩:=V (E s2)
  have MZ:=F<|λ(x:Z) W (U:r7 w W) (X:Items W.heap.size W x D) (hne:¬ D=[])=>(show bF prog 21 #[.int .i64 l,.agg (bD x d)] W (.string ob)from by
   rw[Vc,hs2];exact FC l D x d W (k.w.resolve_right (by rw[<-hR,<-g];exact hne)) X (λi hi=>(HLK.o.u i hi).1.sm) (by rw[g,hR];exact k.m) (by have:=HLK.o.n;omega) (by rw[hd,hR];exact k.d) (HN.o.below U))
  obtain⟨q3,hq3⟩:=V (R.items.any (·.right))
  have HHR:=F<|λ(v:Z) W (hI:Items W.heap.size W v R.items)=>(show bF prog 51 #[v,.func (Fn.func 52) #[] #[]] W (.bool q3)from by
   rw[hq3];exact PH R.items v W hI (λi hi=>(K.o.u i hi).1.six) K.o.n)
  rw[<-hq3]at Vm;have HVL:=F Vm;have TE:=F Vc;obtain⟨M,hM⟩:=V (s2.length);have b4Q:ob.size=M:=by rw[Vc,aF,hM]
  have W7:=F hM;have HD:=F hd;clear k hR Vm g hd hs2 Vc hq3 hM HVM HVR HQ HF a2t HS HB HN HE HP
  go_upto_region 9 with(first|((with_reducible apply bS);first|refine cR r5 (.tmp 6) rfl (w.heap.size+1) A b H8.o rfl D2.o ?_|refine cR r5 (.tmp 6) rfl (w.heap.size+1) A b H8.o rfl E2.o ?_|(refine aM rfl 53 rfl _ _ (pC _) ?_;refine JH rfl (.tmp 12) (.tmp 34) rfl v4 R.delay (fa.one' Kf.o) rfl rfl rfl ?_;intro w5 i5;have I5:=F i5;clear i5))|(go_at_call 50;refine(HRQ.o _ J.o.bL).m ?_;rintro e w3 ⟨rfl,U⟩;have T:=F<|J.o.below U;have E2:=F<|D2.o.keep U;have E1:=F<|D1.o.keep U;clear U)|(go_at_call 20;refine(Be.o _ T.o.bL).m ?_;rintro e w4 ⟨v4,rfl,ir,U⟩;have Kf:=F ir;have F3:=F<|T.o.below U;have F1:=F<|E1.o.keep U;clear U ir))
  obtain⟨g12,ZK⟩:=V (w4.heap.size);rw[<-HD.o,<-ZK]at I5;rw[<-ZK];have G3:=F<|F3.o.below I5.o.bL;have G1:=F<|F1.o.keep I5.o.bL;have NA:=F<|Kf.o.below I5.o.bL;have K5:=F<|I5.o.cb;clear ZK D1 D2 J E1 E2 T F1 F3 Kf HRQ Be;cases q3 with
  |false =>
   have j:=F (show Value.agg (vF V')=.agg (bH 2 3 e0) by rw[HVL.o,if_pos rfl];rfl)
   go_wp2_with (first|((with_reducible apply bS);first|refine yw rfl (.tmp 35) rfl g12 53 (bD v4 d) K5.o 0 v4 rfl rfl ?_|(refine Dn rfl (.tmp 10) (.tmp 39) rfl w (w.heap.size+2) rfl J3.o 2 3 e0 rfl rfl ?_;intro w9 i9 t9;have f:=F i9;clear i9 t9))|(go_at_call 51;refine(HHR.o v4 _ (NA.o.iok K.o)).m ?_;rintro e w6 ⟨rfl,U⟩;have H3:=F<|G3.o.below U;clear U)|(go_at_call 49;refine(nW 3 _).m ?_;rintro e w7 ⟨rfl,U⟩;have J3:=F<|H3.o.below U;clear U))
   exact Ea results17 rfl f.o ⟨by rw[j.o],f.o.bL⟩
  |true =>
   have HV4:=F<|HVL.o.trans (if_neg Oc)
   go_upto_region 11 with(first|((with_reducible apply bS);refine yw rfl (.tmp 35) rfl g12 53 (bD v4 d) K5.o 0 v4 rfl rfl ?_)|(go_at_call 51;refine(HHR.o v4 _ (NA.o.iok K.o)).m ?_;rintro e w6 ⟨rfl,U⟩;have H3:=F<|G3.o.below U;have H1:=F<|G1.o.keep U;have Xd:=F<|NA.o.below U;have K6:=F<|K5.o.keep U;clear U))
   clear G1 G3 NA K5 I5 HHR HVL
   go_upto_region 12 with(first|((with_reducible apply bS);first|refine fj r5 (.tmp 5) rfl w.heap.size s r t p.most rfl H1.o ?_|refine vR r5 53 (.tmp 12) rfl g12 (bD v4 d) _ underlying53 rfl mS rfl K6.o ?_|(refine aM rfl 53 rfl _ _ (pC _) ?_;refine JH rfl (.tmp 13) (.tmp 43) rfl v7 d (fa.one' y.o) rfl rfl rfl ?_;intro w8 i8;have I8:=F i8;clear i8))|(go_at_call 31;refine(HKP.o v4 _ H3.o.bL (Xd.o.iok K.o)).m ?_;rintro e w7 ⟨v7,rfl,ir,U⟩;have y:=F ir;have J3:=F<|H3.o.below U;have J1:=F<|H1.o.keep U;clear U ir))
   obtain⟨g13,a4d⟩:=V (w7.heap.size);rw[<-a4d]at I8 ⊢;have M3:=F<|J3.o.below I8.o.bL;have M1:=F<|J1.o.keep I8.o.bL;have TQ:=F<|y.o.below I8.o.bL;have K8:=F<|I8.o.cb;obtain⟨N,mc⟩:=V (D.length);obtain⟨a7,c7,e7⟩:=y.o.len;rw[<-mc]at e7;have S1:=F mc;subst e7;clear a4d mc J1 J3 H1 H3 Xd y K6 HKP I8;by_cases C:N=0
   ·have hnil:D=[]:=az (by rw[<-S1.o];exact C)
    have j:=F (show Value.agg (vF V')=.agg (bH 2 4 e0) by rw[HV4.o,if_pos hnil];rfl);clear hnil;subst C
    go_wp2_with (first|((with_reducible apply bS);first|refine yw rfl (.tmp 44) rfl g13 53 (bD (.slice a7 0 c7) d) K8.o 0 (.slice a7 0 c7) rfl rfl ?_|(refine Dn rfl (.tmp 10) (.tmp 48) rfl w (w.heap.size+2) rfl N3.o 2 4 e0 rfl rfl ?_;intro w9 i9 t9;have f:=F i9;clear i9 t9))|(go_at_call 49;refine(nW 4 _).m ?_;rintro e x7 ⟨rfl,U⟩;have N3:=F<|M3.o.below U;clear U))
    exact Ea results17 rfl f.o ⟨by rw[j.o],f.o.bL⟩
   have hnn:¬ D=[]:=λe=>C (by rw[S1.o,e];rfl);have qn:(((N:Nat):Int)==0)=false:=by simpa using C
   have HV5:=F<|HV4.o.trans (if_neg hnn);have HNZ:=F hnn;clear hnn HV4
   go_upto_region 15 with(first|((with_reducible apply bS);first|refine yw rfl (.tmp 44) rfl g13 53 (bD (.slice a7 N c7) d) K8.o 0 (.slice a7 N c7) rfl rfl ?_|refine vR r5 53 (.tmp 13) rfl g13 (bD (.slice a7 N c7) d) _ underlying53 rfl mS rfl K8.o ?_)|(go_at_call 21;refine(MZ.o _ _ M3.o.bL (TQ.o.iok HLK.o) HNZ.o).m ?_;rintro e x8 ⟨rfl,U⟩;have N3:=F<|M3.o.below U;have N1:=F<|M1.o.keep U;clear U))
   clear M1 M3 TQ K8 MZ;by_cases hm2:mo<(M:Int)
   ·have j:=F (show Value.agg (vF V')=.agg (bH 2 1 e0) by rw[HV5.o,if_pos (by rw[<-W7.o];exact hm2)];rfl)
    go_wp2_with (first|((with_reducible apply bS);first|refine tY r5 (.tmp 54) rfl w.heap.size 3 24 (aY s r t p.most) N1.o (.int .i64 mo) (by rw[Yx.o];rfl) rfl ?_|(refine Dn rfl (.tmp 10) (.tmp 57) rfl w (w.heap.size+2) rfl O3.o 2 1 e0 rfl rfl ?_;intro w9 i9 t9;have f:=F i9;clear i9 t9))|(go_at_call 49;refine(nW 1 _).m ?_;rintro e x9 ⟨rfl,U⟩;have O3:=F<|N3.o.below U;clear U))
    exact Ea results17 rfl f.o ⟨by rw[j.o],f.o.bL⟩
   have j:=F (show Value.agg (vF V')=.agg (bH 3 0 ob) by rw[HV5.o,if_neg (by rw[<-W7.o];exact hm2),TE.o])
   go_wp2_with (first|((with_reducible apply bS);first|refine tY r5 (.tmp 54) rfl w.heap.size 3 24 (aY s r t p.most) N1.o (.int .i64 mo) (by rw[Yx.o];rfl) rfl ?_|(refine Dn rfl (.tmp 10) (.tmp 59) rfl w (w.heap.size+2) rfl N3.o 3 0 ob rfl rfl ?_;intro w9 i9 t9;have f:=F i9;clear i9 t9)))
   exact Ea results17 rfl f.o ⟨by rw[j.o],f.o.bL⟩

theorem a5O(k y d f:Int)(o a:ByteArray)(w:H):(binOp .eql 44 (.agg (bH k y o)) (.agg (bH d f a))).run prog w=.ok (.bool (decide (k=d)&&decide (y=f)&&decide (o=a))) w:=by
 have c:prog.underlying 44=some (.struct (prog.fieldsOf 44)):=Rz;have hp:prog.stoodInHeld 44=false:=Rz;rw[run_eql_struct,show(10000:Nat)=9999+1 from rfl,run_equalIn_agg w 9999 44 _ _ c hp];simp only[Program.fieldsOf,underlying44]
 have g:(o.toList==a.toList)=decide (o=a):=by
  rw[bX,decide_eq_true_eq,beq_iff_eq];constructor
  ·intro h
   have e:∀ z:ByteArray,z=E z.toList:=λz=>by
    rw[show z.toList=ls z from(zj z)];exact(kt z).symm
   rw[e o,e a,h]
  exact λh=>by rw[h]
 clear c hp;generalize decide (o=a)=q at g ⊢
 go_simp
 repeat' split
 all_goals simp_all
section
variable {ops:Array Oper} {rest:List Oper} {o:Oper} {a:Act} {w:H} {Q:Exit->Act->H->Prop}
theorem O0(h:Region.wanted o (yielded ops a.tmps)=true)(x y:Operand)(i:o.op=.binOp .eql 44 x y 44)(k z c f:Int)(t d:ByteArray)(q:Bool)(j:(decide (k=c)&&decide (z=f)&&decide (t=d))=q)(X:a.eval x=.agg (bH k z t))(hy:a.eval y=.agg (bH c f d))
  (K:wpList prog ops Q rest (a.put o.dst (.bool q)) w):wpList prog ops Q (o::rest) a w:=by
 refine nj h (.bool q) ?_ K;have e:=a5O k z c f t d w;have g:=run_eqGuard_agg (P:=prog) w .eql 44 x y (bH k z t) (bH c f d) Rz;unfold execOp;simp only[i,X,hy,Sem.run_bind,Sem.run_pure,Result.andThen_ok,e,g,j]
theorem eqS(c:Region.wanted o (yielded ops a.tmps)=true)(x y:Operand)(d:o.op=.binOp .eql 44 x y 44){k z:Int}{t:ByteArray}(X:a.eval x=.agg (bH k z t))(hy:a.eval y=.agg (bH k z t))
  (K:wpList prog ops Q rest (a.put o.dst (.bool true)) w):wpList prog ops Q (o::rest) a w :=
 O0 c x y d k z k z t t true Oc X hy K
theorem vB(c:Region.wanted o (yielded ops a.tmps)=true)(x:Operand)(d:o.op=.load 44 x)(b:Nat)(k y:Int)(t:ByteArray)(X:a.eval x=.pointer (some ⟨b,0,none⟩))(i:CB w b 44 (bH k y t))(K:wpList prog ops Q rest (a.put o.dst (.agg (bH k y t))) w):wpList prog ops Q (o::rest) a w :=
 vR c 44 x d b (bH k y t) _ underlying44 rfl xi X i K
theorem newV{W:H}(c:o.guard=none)(x y:Operand)(f:o.op=.store 44 x y)(k z:Int)(t:ByteArray)(e:W=w.alloc (.cells (bH 0 0 e0) 44))(X:a.eval x=.pointer (some ⟨w.heap.size,0,none⟩))(hy:a.eval y=.agg (bH k z t))
  (K:∀ d,CB d w.heap.size 44 (bH k z t)->r7 w d->wpList prog ops Q rest (a.put o.dst undef) d):wpList prog ops Q (o::rest) a W :=
 jG c _ x y f (bH k z t) (bH 0 0 e0) xi rfl (all_oneCell_toArray (SG k z t)) e X hy K
theorem bw2{y:Int}(c:Region.wanted o (yielded ops a.tmps)=true)(d:o.op=.build 44 #[(0,.const (.int .i64 2)),(1,.const (.int .i64 y))])(K:wpList prog ops Q rest (a.put o.dst (.agg (bH 2 y e0))) w):wpList prog ops Q (o::rest) a w :=
 jl c _ _ d _ #[(0,.int .i64 2),(1,.int .i64 y)] (by simp[Act.eval]) (xZ y) K
theorem bw3{t:ByteArray}(c:Region.wanted o (yielded ops a.tmps)=true)(d:o.op=.build 44 #[(0,.const (.int .i64 3)),(2,.const (.string t))])(K:wpList prog ops Q rest (a.put o.dst (.agg (bH 3 0 t))) w):wpList prog ops Q (o::rest) a w :=
 jl c _ _ d _ #[(0,.int .i64 3),(2,.string t)] (by simp[Act.eval]) (Ip t) K
end
structure M4 (w W:H) (g1 g3:Nat) (A sv hv:Z) (L:List (Nat×M9)):Prop where
 b:r7 w W
 e:Env W
 n:NE W
 u:CB W g1 34 (ai A jP)
 p:CB W g3 24 (aY sv hv aI 60)
 s:Sl W.heap.size W A (jP.path.map S)
 a:b6w W sv hv aI wL
 l:∀ x∈L,CB W x.1 44 (vF x.2)
section
variable {w W:H} {g1 g3:Nat} {A sv hv:Z} {L:List (Nat×M9)}
theorem M4.below(h:M4 w W g1 g3 A sv hv L)(U:r7 W W'):M4 w W' g1 g3 A sv hv L :=
 ⟨h.b.trans (U.m h.b.size),h.e.below U,h.n.below U,h.u.keep U,h.p.keep U,(h.s.below U).more U.size,h.a.below U,λx X=>(h.l x X).keep U⟩
theorem M4.push(h:M4 w W g1 g3 A sv hv L){g:Nat}(c:CB W g 44 (vF V')):M4 w W g1 g3 A sv hv ((g,V')::L) :=
 ⟨h.b,h.e,h.n,h.u,h.p,h.s,h.a,λx X=>by
  rcases aK.mp X with rfl|X
  ·exact c
  exact h.l x X⟩
theorem M4.at(h:M4 w W g1 g3 A sv hv L)(i:Nat){g:Nat}(e:L[i]? = some (g,V')):CB W g 44 (vF V'):=h.l _ (c8W e)
end
section
variable {ops:Array Oper} {rest:List Oper} {o:Oper} {a:Act} {w W:H} {Q:Exit->Act->H->Prop} {g1 g3:Nat} {A sv hv:Z} {L:List (Nat×M9)}
end
section
variable {o:Oper} {a:Act} {w:H} {Q:Exit->Act->H->Prop} {K:Act->H->Prop}
end
theorem Y3(w:H):(Instr.alloc 24 true (Value.tuple #[])).run prog w=.ok (.pointer (some ⟨w.heap.size,0,none⟩)) (w.alloc (.cells (aY aI aI aI 0) 24)):=Rz
theorem VV{sv hv c:Z}{m:Int}(Y:sv.oneCell'=true)(I:hv.oneCell'=true)(d:c.oneCell'=true):∀ u ∈ [sv,hv,c,.int .i64 m],u.oneCell'=true:=by
 intro u hu;simp only[aK,cV,or_false]at hu;rcases hu with rfl|rfl|rfl|rfl
 ·exact Y
 ·exact I
 ·exact d
 rfl
section
variable {ops:Array Oper} {rest:List Oper} {o:Oper} {a:Act} {w:H} {Q:Exit->Act->H->Prop}
theorem a0u{W:H}(d:o.guard=none)(x y:Operand)(h:o.op=.store 24 x y)(sv hv c:Z)(m:Int)(Y:sv.oneCell'=true)(I:hv.oneCell'=true)(f:c.oneCell'=true)(g:W=w.alloc (.cells (aY aI aI aI 0) 24))(X:a.eval x=.pointer (some ⟨w.heap.size,0,none⟩))(hy:a.eval y=.agg (aY sv hv c m))
  (K:∀ e,CB e w.heap.size 24 (aY sv hv c m)->r7 w e->wpList prog ops Q rest (a.put o.dst undef) e):wpList prog ops Q (o::rest) a W :=
 jG d _ x y h (aY sv hv c m) (aY aI aI aI 0) wn rfl (all_oneCell_toArray (VV Y I f)) g X hy K
end

def gB:Url:={jP with aJ:=[104,116,116,112,115]}
def gP:qh:=⟨[[104,116,116,112,115],[100,97,116,97]],[[104],[46,99,46,100]],[[105,109,97,103,101,47,112,110,103]],200⟩
theorem c4f:zK gB:=⟨⟨⟨P8,P8,rfl,P8⟩,P8⟩,⟨P8,P8,P8,P8,P8,P8,P8,P8⟩,P8,P8⟩
theorem c4g:eF [104,116,116,112,115,58,47,47,104,47,97,47,98]=some gB:=Rz
theorem c4h:dA gB true=[104,116,116,112,115,58,47,47,104,47,97,47,98]:=Rz
abbrev gR1:O:=[120,32,49,120,44,47,47,101,32,50,120,44,32,104,116,116,112,115,58,47,47,81,46,67,46,68,47,39,38,97,109,112,59,44,32,100,97,116,97,58,105,109,97,103,101,47,103,105,102,44,97]
abbrev gO1:O:=[104,116,116,112,115,58,47,47,104,47,97,47,120,32,49,120,44,32,104,116,116,112,115,58,47,47,113,46,99,46,100,47,38,35,51,57,59,38,97,109,112,59]
abbrev gR2:O:=[106,97,118,97,38,84,97,98,59,115,99,114,105,112,116,58,120]
theorem gK1:gA [105,109,103] [115,114,99,115,101,116]=2:=by decide +kernel
theorem gK2:gA [97] [104,114,101,102]=1:=by decide +kernel
theorem gW2:(mg (gA [97] [104,114,101,102]) gB (jw gR2)).items.filter (jO gP (gA [97] [104,114,101,102]))=[]:=Rz
theorem gF1:dQ gP gB [105,109,103] [115,114,99,115,101,116] gR1=⟨3,0,gO1⟩:=Rz
theorem gF2:dQ gP gB [97] [104,114,101,102] gR2=iu 4:=Rz
theorem c0P(x y:ByteArray)(w:H):(Instr.buildSlice 22 2 #[(0,.string x),(1,.string y)]).run prog w=.ok (.slice (some ⟨w.heap.size,0,none⟩) 2 2) (w.alloc (.cells #[.string x,.string y] 9)):=Rz
theorem b8u(w:H)(x y:O):Sl (w.alloc (.cells #[S x,S y] 9)).heap.size (w.alloc (.cells #[S x,S y] 9)) (.slice (some ⟨w.heap.size,0,none⟩) 2 2) ([x,y].map S):=by
 have c:=CB.new w 9 #[S x,S y];refine⟨2,Oc,P8,.inr ⟨w.heap.size,0,c.lt,Oc,λj d=>?_⟩⟩;rw[bM];rcases(show j=0\/j=1 by simp at d;omega)with rfl|rfl
 ·exact c.aE rfl
 exact c.aE rfl
section
variable {ops:Array Oper} {rest:List Oper} {o:Oper} {a:Act} {w:H} {Q:Exit->Act->H->Prop}
theorem a22(d:Region.wanted o (yielded ops a.tmps)=true)(y z:Operand)(f:o.op=.buildSlice 22 2 #[(0,y),(1,z)])(x u:O)(hy:a.eval y=S x)(g:a.eval z=S u)
  (h:∀ b c,r7 w c->Sl c.heap.size c (.slice (some ⟨b,0,none⟩) 2 2) ([x,u].map S)->wpList prog ops Q rest (a.put o.dst (.slice (some ⟨b,0,none⟩) 2 2)) c):wpList prog ops Q (o::rest) a w:=by
 unfold wpList;rw[if_pos d];refine .inl ?_;unfold Oper.wp execOp;have e:(#[(0,y),(1,z)]:Array (Nat×Operand)).map (λ(i,x)=>(i,a.eval x))=#[(0,S x),(1,S u)]:=by simp[hy,g]
 simp only[f,Sem.run_bind,Sem.run_pure,Result.andThen_ok,e,c0P];exact h _ _ ((Below.refl _ _).alloc (ag _) _) (b8u w x u)
end
structure KG (w W:H) (g1 g3:Nat) (A sv hv tv:Z) (L:List (Nat×M9)):Prop where
 b:r7 w W
 e:Env W
 n:NE W
 u:CB W g1 34 (ai A gB)
 p:CB W g3 24 (aY sv hv tv 200)
 s:Sl W.heap.size W A (gB.path.map S)
 a:b6w W sv hv tv gP
 l:∀ x∈L,CB W x.1 44 (vF x.2)
section
variable {w W:H} {g1 g3:Nat} {A sv hv tv:Z} {L:List (Nat×M9)}
theorem KG.below(h:KG w W g1 g3 A sv hv tv L)(U:r7 W W'):KG w W' g1 g3 A sv hv tv L :=
 ⟨h.b.trans (U.m h.b.size),h.e.below U,h.n.below U,h.u.keep U,h.p.keep U,(h.s.below U).more U.size,h.a.below U,λx X=>(h.l x X).keep U⟩
theorem KG.push(h:KG w W g1 g3 A sv hv tv L){g:Nat}(c:CB W g 44 (vF V')):KG w W g1 g3 A sv hv tv ((g,V')::L) :=
 ⟨h.b,h.e,h.n,h.u,h.p,h.s,h.a,λx X=>by
  rcases aK.mp X with rfl|X
  ·exact c
  exact h.l x X⟩
theorem KG.at(h:KG w W g1 g3 A sv hv tv L)(i:Nat){g:Nat}(e:L[i]? = some (g,V')):CB W g 44 (vF V'):=h.l _ (c8W e)
theorem b8z(h:KG w W g1 g3 A sv hv tv L){c d raw:O}{f:Z}(p:Sl W.heap.size W f (Lib.byteCells raw))(j:dQ gP gB c d raw=V')(l:raw.length<=300/\c.length<=300/\d.length<=300)(k:gA c d=2\/gA c d=1)(hw:gA c d=2\/(mg (gA c d) gB (jw raw)).items.filter (jO gP (gA c d))=[]) :
  Calls prog 17 #[.agg (aY sv hv tv 200),.agg (ai A gB),.string (E c),.string (E d),f] W λe i=>e=.returned (.agg (vF V'))/\KG w i g1 g3 A sv hv tv L:=by
 have g:=vr gP gB c d raw f sv hv tv A W h.a c4f h.s (by decide +kernel) ⟨M0,M0⟩ p (λe=>vw gP (T:=300) ⟨M0,M0⟩ (by rw[c4h];decide) e l.1 k hw) h.e h.n;rw[j]at g;exact g.m (λe i ⟨Y,I⟩=>⟨Y,h.below I⟩)
end
section
variable {ops:Array Oper} {rest:List Oper} {o:Oper} {a:Act} {w W:H} {Q:Exit->Act->H->Prop} {g1 g3:Nat} {A sv hv tv:Z} {L:List (Nat×M9)}
theorem c1p(z:O)(e:o.guard=none)(x:Operand)(f:o.op=.convert 46 46 x){C:Array Z}{n:Nat}(d:z.length=n/\n<=100)(g:(Lib.byteCells z).toArray=C)(h:KG w W g1 g3 A sv hv tv L)(X:a.eval x=.slice (some ⟨W.heap.size,0,none⟩) n n)
  (K:∀ c,KG w c g1 g3 A sv hv tv L->Sl c.heap.size c (.slice (some ⟨W.heap.size,0,none⟩) n n) (Lib.byteCells z)->wpList prog ops Q rest (a.put o.dst (.slice (some ⟨W.heap.size,0,none⟩) n n)) c):wpList prog ops Q (o::rest) a (W.alloc (.cells C 5)):=by
 refine iq e _ _ x f _ X (k7 C n W) (K _ (h.below ((Below.refl _ _).alloc (ag _) _)) ?_);have s:=lh z W (am (d.1▸d.2) P8) (C.size,C.size+1);rw[g,d.1]at s;exact s
theorem newG(e:o.guard=none)(x y:Operand)(f:o.op=.store 44 x y)(h:KG w W g1 g3 A sv hv tv L)(X:a.eval x=.pointer (some ⟨W.heap.size,0,none⟩))(hy:a.eval y=.agg (vF V'))
  (K:∀ d,KG w d g1 g3 A sv hv tv ((W.heap.size,V')::L)->wpList prog ops Q rest (a.put o.dst undef) d):wpList prog ops Q (o::rest) a (W.alloc (.cells (bH 0 0 e0) 44)) :=
 newV e x y f V'.kind V'.why (E V'.o) rfl X hy (λd c b=>K d ((h.below b).push c))
end
theorem a12(w:H)(T:Env w)(hN:NE w):bF prog 7 #[] w (.bool true):=by
 have hp:=xg [104,116,116,112,115,58,47,47,104,47,97,47,98] w P8 T;rw[c4g]at hp;have HP:=F (show Calls prog 33 #[.string ⟨#[104,116,116,112,115,58,47,47,104,47,97,47,98]⟩] w λe w'=>∃ A,e=.returned (.tuple #[.agg (ai A gB),.bool true])/\w'.ownsRow w.heap.size 9 1 A gB.path.length (Strs gB.path)/\r7 w w' from hp);have HE:=F T;have HN:=F hN;clear hp T hN;go_enter func7,ntmps7
 go_upto_region 4 with(first|(go_at_call 33;refine(HP.o).m ?_;rintro e w1 ⟨A,rfl,oo,U⟩;have M:=F oo;have D:=F U;clear oo U)|((with_reducible apply bS);refine aM rfl 34 rfl _ _ (eD _) ?_;refine fL rfl (.tmp 1) (.tmp 8) rfl A gB rfl (bm M.o) rfl rfl rfl ?_;intro w2 I U;have P:=F I;have B2:=F<|D.o.trans (U.m D.o.size);have O2:=F<|own_below' M.o U;clear U I))
 clear D M HP;obtain⟨g1,z⟩:=V (w1.heap.size);rw[<-z]at P ⊢;clear z
 go_upto_region 5 with(first|((with_reducible apply bS);first|(refine a22 r5 (.const (.string ⟨#[104,116,116,112,115]⟩)) (.const (.string ⟨#[100,97,116,97]⟩)) rfl [104,116,116,112,115] [100,97,116,97] rfl rfl ?_;intro ba w3 U f;have B3:=F<|dw B2.o U;have U3:=F<|P.o.keep U;have O3:=F<|own_below' O2.o U;have l:=F f;clear U f)|(refine a22 r5 (.const (.string ⟨#[104]⟩)) (.const (.string ⟨#[46,99,46,100]⟩)) rfl [104] [46,99,46,100] rfl rfl ?_;intro bc w4 U f;have B4:=F<|dw B3.o U;have U4:=F<|U3.o.keep U;have O4:=F<|own_below' O3.o U;have q:=F<|(l.o.below U).more U.size;have h:=F f;clear U f)|(refine Oh r5 (.const (.string ⟨#[105,109,97,103,101,47,112,110,103]⟩)) rfl [105,109,97,103,101,47,112,110,103] rfl ?_;intro R w4x U f;have d:=F<|dw B4.o U;have r:=F<|U4.o.keep U;have i:=F<|own_below' O4.o U;have v:=F<|(q.o.below U).more U.size;have t:=F<|(h.o.below U).more U.size;have y:=F f;clear U f)|(refine aM rfl 24 rfl _ _ (Y3 _) ?_;refine a0u rfl (.tmp 3) (.tmp 15) rfl (.slice (some ⟨ba,0,none⟩) 2 2) (.slice (some ⟨bc,0,none⟩) 2 2) (.slice (some ⟨R,0,none⟩) 1 1) 200 rfl rfl rfl rfl rfl rfl ?_;intro w5 h5 U;have N:=F h5;have c:=F U;clear h5 U)))
 obtain⟨g3,B⟩:=V (w4x.heap.size);rw[<-B]at N ⊢;have J:=F (show KG w w5 g1 g3 A (.slice (some ⟨ba,0,none⟩) 2 2) (.slice (some ⟨bc,0,none⟩) 2 2) (.slice (some ⟨R,0,none⟩) 1 1) []from⟨dw d.o c.o,HE.o.below (dw d.o c.o),HN.o.below (dw d.o c.o),r.o.keep c.o,N.o,(Sl.g9 (sB (own_below' i.o c.o))),⟨(v.o.below c.o).more c.o.size,(t.o.below c.o).more c.o.size,(y.o.below c.o).more c.o.size,P8,P8⟩,λx X=>by cases X⟩);clear B B2 B3 B4 d P U3 U4 r O2 O3 O4 i l q v h t y N c HE HN;generalize (Value.slice (some ⟨ba,0,none⟩) 2 2)=sv at J ⊢;generalize (Value.slice (some ⟨bc,0,none⟩) 2 2)=hv at J ⊢;generalize (Value.slice (some ⟨R,0,none⟩) 1 1)=tv at J ⊢
 go_upto_region 6 with(first|((with_reducible apply bS);first|refine fj r5 _ rfl g3 sv hv tv 200 rfl J.o.p ?_|refine cR r5 _ rfl g1 A gB rfl rfl J.o.u ?_|(refine c1p gR1 rfl _ rfl (n:=51) P8 Rz J.o rfl ?_;clear J;intro C k s;have J:=F k;have j:=F s;clear k s)|(refine aM rfl 44 rfl _ _ (tV _) ?_;refine newG rfl _ _ rfl J.o rfl rfl ?_;clear J;intro w7 k;generalize C.heap.size=g at k ⊢;have J:=F k;clear k))|(go_at_call 17;refine(b8z J.o j.o gF1 P8 (.inl gK1) (.inl gK1)).m ?_;clear J j;rintro e C ⟨rfl,k⟩;have J:=F k;clear k))
 go_upto_region 7 with(first|((with_reducible apply bS);first|refine fj r5 _ rfl g3 sv hv tv 200 rfl J.o.p ?_|refine cR r5 _ rfl g1 A gB rfl rfl J.o.u ?_|(refine c1p gR2 rfl _ rfl (n:=17) P8 Rz J.o rfl ?_;clear J;intro C k s;have J:=F k;have j:=F s;clear k s)|(refine aM rfl 44 rfl _ _ (tV _) ?_;refine newG rfl _ _ rfl J.o rfl rfl ?_;clear J;intro w7 k;generalize C.heap.size=g at k ⊢;have J:=F k;clear k))|(go_at_call 17;refine(b8z J.o j.o gF2 P8 (.inr gK2) (.inr gW2)).m ?_;clear J j;rintro e C ⟨rfl,k⟩;have J:=F k;clear k))
 have A4:=F (show CB _ _ _ (bH 3 0 ⟨#[104,116,116,112,115,58,47,47,104,47,97,47,120,32,49,120,44,32,104,116,116,112,115,58,47,47,113,46,99,46,100,47,38,35,51,57,59,38,97,109,112,59]⟩)from J.o.at 1 rfl);have A5:=F (show CB _ _ _ (bH 2 4 ⟨#[]⟩)from J.o.at 0 rfl);have JB:=F J.o.b;clear J
 go_wp2_with (first|((with_reducible apply bS);first|refine vB r5 (.tmp 4) rfl _ _ _ _ rfl A4.o ?_|refine vB r5 (.tmp 5) rfl _ _ _ _ rfl A5.o ?_|refine bw2 r5 rfl ?_|refine bw3 r5 rfl ?_|refine eqS r5 _ _ rfl rfl rfl ?_))
 go_ret;exact⟨rfl,JB.o⟩
