import Derived.Test.YtagfilhbpnjhkaaGreatDoorFGTopC
import Derived.Test.YtagfilhbpnjhkaaGreatDoorFGMapK
set_option maxRecDepth 10000
set_option maxHeartbeats 0
namespace Go.Proofs.Q
open Tryz Go.RowKit
variable{W':H}{V':M9}
theorem Wu(w:H)(e f:Array Z):∃W,((w.alloc (.cells e 24)).alloc (.cells f 34)).alloc (.cells (bH 0 0 e0) 41)=W/\W.heap.size=w.heap.size+3 /\
  CB W w.heap.size 24 e/\CB W (w.heap.size+1) 34 f/\OB w (w.heap.size+2) 41 (bH 0 0 e0) W:=by
 obtain⟨c,I,z2,h,a2,G⟩:=qd w 24 34 e f;have a3:=CB.new c 41 (bH 0 0 e0);have d:=(gT c.heap.size c).alloc (ag _) (.cells (bH 0 0 e0) 41);obtain⟨g,a⟩:=V (c.alloc (.cells (bH 0 0 e0) 41));have z3:g.heap.size=c.heap.size+1:=by rw[a];simp
 rw[<-a]at a3 d;rw[z2]at a3;exact⟨g,by rw[I,a],M0,h.keep d,a2.keep d,OB.of a3 M0 (dw G d)⟩
theorem fa.iok{W:H}{base:Nat}{v:Z}{l:List eu}(c:fa W base v l)(h:ILk l):Items W.heap.size W v l:=c.items λi hi=>(h.u i hi).1.ok
theorem Pn{p:qh}{kind:Int}{b:Url}{l:O}(h:Tj p kind b l):ILk (mg kind b (jw l)).items:=⟨h.u,h.n⟩
theorem vr(p:qh)(b:Url)(el nm raw:O)(rv s r t A:Z)(w:H)(hp:b6w w s r t p)(h:zK b)(hs:Sl w.heap.size w A (b.path.map S))(hl:(dA b true).length<=1048576)(hel:el.length<=1000000/\nm.length<=1000000)
  (hraw:Sl w.heap.size w rv (Lib.byteCells raw)) (hF:eF (dA b true)=some b->Tj p (gA el nm) b raw) (hE:Env w) (hN:NE w) :
  bF prog 9 #[.agg (aY s r t p.most),.agg (ai A b),.string (E el),.string (E nm),rv] w (.agg (vF (dQ p b el nm raw))):=by
 obtain⟨V',hV⟩:=V (dQ p b el nm raw);rw[<-hV];unfold dQ at hV;have B:=λW=>Dc el nm W hel.1 hel.2;obtain⟨k,hkd⟩:=V (gA el nm);rw[<-hkd]at hV hF B;obtain⟨eb,Td,nb,hnb⟩:=ac (E el) (E nm);rw[<-Td,<-hnb]at B⊢;have W4:=F B;obtain⟨L,hL⟩:=V (raw.length);rw[<-hL]at hV
 obtain⟨av,cv,rfl⟩:∃a c,rv=.slice a L c:=by
  rcases AU hraw with⟨rfl,a,c,rfl⟩|⟨b,o,c,_,_,rfl,_⟩
  ·exact⟨a,c,by rw[hL];rfl⟩
  exact⟨_,c,by rw[hL]⟩
 obtain⟨mo,Yx⟩:=ey (p.most);rw[<-Yx.o]at hV;obtain⟨H8,HRI,HV,HF,HP,HB,HS,a2t⟩:=er h.six (λW (U:r7 w W)=>xh b A W h ((hs.below U).more U.size) hl (hE.below U) (hN.below U)) hV hF hp h hs hraw;have HE:=F hE;have HN:=F hN;obtain⟨W,hw,hsz,c1,c2,c3⟩:=Wu w (aY s r t p.most) (ai A b);obtain⟨C1,C2,C3,HW,eM⟩:=ec c1 c2 c3 hw hsz;clear c1 c2 c3 hw hsz B hkd Td hnb hL hV hF hp h hs hl hel hraw hE hN;go_enter func9,ntmps9
 go_upto_region 1 with((with_reducible apply bS);refine aM rfl 41 rfl _ _ (tV _) ?_)
 rw[HW.o];by_cases k0:k=0
 ·have g:=F (show Value.agg (vF V')=.agg (bH 1 0 e0) by rw[HV.o,ge k0];rfl)
  subst k0
  go_wp2_with(first|(go_at_call 8;refine(W4.o _).k λw2 U=>?_;have D:=F<|C3.o.below U.o;clear U)|((with_reducible apply bS);refine Dn rfl 10 20 rfl w (w.heap.size+2) rfl D.o 1 0 e0 rfl rfl ?_;intro w9 i9 t9;have f:=F i9;clear i9 t9))
  exact Ea results9 rfl f.o ⟨by rw[g.o],f.o.bL⟩
 have qk:(k==0)=false:=by simpa using k0
 go_upto_region 4 with(go_at_call 8;refine(W4.o _).k λw2 U=>?_;obtain⟨D,D2,D1⟩:=cZ (C3.o.below U.o) (C2.o.keep U.o) (C1.o.keep U.o);clear U)
 clear C1 C2 C3 W4 HW;have S4:=F<|HV.o.trans (gc k0);clear HV;by_cases hm:mo<(L:Int)
 ·have g:=F (show Value.agg (vF V')=.agg (bH 2 1 e0) by rw[S4.o,ge hm];rfl)
  go_wp2_with(first|((with_reducible apply bS);first|refine tY r5 23 rfl w.heap.size 3 24 (aY s r t p.most) D1.o (.int .i64 mo) (by rw[Yx.o];rfl) rfl ?_|(refine Dn rfl 10 26 rfl w (w.heap.size+2) rfl P.o 2 1 e0 rfl rfl ?_;intro w9 i9 t9;have f:=F i9;clear i9 t9))|(go_at_call 20;refine(nW 1 _).k λw3 U=>?_;have P:=F<|D.o.below U.o;clear U))
  exact Ea results9 rfl f.o ⟨by rw[g.o],f.o.bL⟩
 have HVM:=F<|S4.o.trans (gc hm);clear S4
 go_upto_region 6 with((with_reducible apply bS);refine tY r5 23 rfl w.heap.size 3 24 (aY s r t p.most) D1.o (.int .i64 mo) (by rw[Yx.o];rfl) rfl ?_)
 obtain⟨q,HQ⟩:=ey (oy b);have HRQ:=fo (∀W,r7 w W->bF prog 21 #[.agg (ai A b)] W (.bool q)) (λW U=>(HRI.o W U).m λe w' ⟨z,Y,I,h3⟩=>⟨by rw[Y,show z=q by rw[HQ.o,bX,I,p7]],h3⟩);clear HRI;cases q with
 |false =>
  have g:=F (show Value.agg (vF V')=.agg (bH 2 2 e0) by rw[HVM.o,ge HQ.o.symm];rfl)
  go_wp2_with(first|((with_reducible apply bS);first|refine cR r5 6 rfl (w.heap.size+1) A b H8.o rfl D2.o ?_|(refine Dn rfl 10 30 rfl w (w.heap.size+2) rfl F3.o 2 2 e0 rfl rfl ?_;intro w9 i9 t9;have f:=F i9;clear i9 t9))|(go_at_call 21;refine(HRQ.o _ D.o.bL).k λw3 U=>?_;have P:=F<|D.o.below U.o;clear U)|(go_at_call 20;refine(nW 2 _).k λw4 U=>?_;have F3:=F<|P.o.below U.o;clear U))
  exact Ea results9 rfl f.o ⟨by rw[g.o],f.o.bL⟩
 |true =>
  have HVR:=F<|HVM.o.trans (gc (by rw[<-HQ.o];simp));have l:=HF.o ((p7 b).mp HQ.o.symm);obtain⟨R,hR⟩:=V (mg k b (jw raw));have Vm:=HVR.o;rw[<-hR]at Vm;have J:=fo (ILk R.items) (by rw[hR];exact Pn l)
  have Be:=F<|λW (U:r7 w W)=>(show Calls prog 10 #[.int .i64 k,.agg (ai A b),.slice av L cv] W (jz W R)from by
   rw[hR];exact Du k b A raw _ W H8.o ((HS.o.below U).more U.size) HB.o.b ((a2t.o.below U).more U.size) l.v (HE.o.below U))
  obtain⟨K,j,d,hd⟩:=ac (R.items.filter (jO p k)) (R.delay);rw[<-j,<-hd]at Vm;obtain⟨s2,hs2⟩:=V (kK k K d);rw[<-hs2]at Vm;have T:=fo (ILk K) ⟨λi hi=>J.o.u i (by rw[j]at hi;exact(a3J.mp hi).1),by have:=dO (jO p k) R.items;have:=J.o.n;rw[j];omega⟩
  have HKP:=F<|λ(v:Z) W (U:r7 w W) (hI:Items W.heap.size W v R.items)=>(show Calls prog 24 #[.agg (aY s r t p.most),.int .i64 k,.agg (bD v d)] W (jz W ⟨K,d⟩)from by
   rw[j];exact Z3 p k R.items d v s r t W hI J.o (HP.o.below U) (HE.o.below U) (HN.o.below U))
  obtain⟨ob,Vc⟩:=V (E s2)
  have MZ:=F<|λ(x:Z) W (U:r7 w W) (X:Items W.heap.size W x K)=>(show bF prog 15 #[.int .i64 k,.agg (bD x d)] W (.string ob)from by
   rw[Vc,hs2];exact FC k K x d W X (λi hi=>(T.o.u i hi).1.sm) (by rw[j,hR];exact l.m) (by have:=T.o.n;omega) (by rw[hd,hR];exact l.d) (HN.o.below U))
  obtain⟨q3,hq3⟩:=V (R.items.any (·.right))
  have Q:=F<|λ(v:Z) W (hI:Items W.heap.size W v R.items)=>(show bF prog 22 #[v,.func (Fn.func 23) #[] #[]] W (.bool q3)from by
   rw[hq3];exact PH R.items v W hI (λi hi=>(J.o.u i hi).1.six) J.o.n)
  rw[<-hq3]at Vm;have HVL:=F Vm;have TE:=F Vc;obtain⟨M,hM⟩:=V (s2.length);have b4Q:ob.size=M:=by rw[Vc,aF,hM]
  have W7:=F hM;have HD:=F hd;clear l hR Vm j hd hs2 Vc hq3 hM HVM HVR HQ HF a2t HS HB HN HE HP
  go_upto_region 9 with(first|((with_reducible apply bS);first|refine cR r5 6 rfl (w.heap.size+1) A b H8.o rfl D2.o ?_|refine cR r5 6 rfl (w.heap.size+1) A b H8.o rfl E2.o ?_|(refine aM rfl 45 rfl _ _ (pC _) ?_;refine JH rfl 12 34 rfl v4 R.delay (fa.one' Kf.o) rfl rfl rfl ?_;intro w5 i5;have I5:=F i5;clear i5))|(go_at_call 21;refine(HRQ.o _ D.o.bL).k λw3 U=>?_;obtain⟨P,E2,E1⟩:=cZ (D.o.below U.o) (D2.o.keep U.o) (D1.o.keep U.o);clear U)|(go_at_call 10;refine(Be.o _ P.o.bL).m ?_;rintro e w4⟨v4,rfl,ir,U⟩;obtain⟨Kf,F3,F1⟩:=cZ ir (P.o.below U) (E1.o.keep U);clear U ir))
  obtain⟨g12,ZK⟩:=V (w4.heap.size);rw[<-HD.o,<-ZK]at I5;rw[<-ZK];obtain⟨G3,G1,NA,K5⟩:=dT (F3.o.below I5.o.bL) (F1.o.keep I5.o.bL) (Kf.o.below I5.o.bL) I5.o.cb;clear ZK D1 D2 D E1 E2 P F1 F3 Kf HRQ Be;cases q3 with
  |false =>
   have g:=F (show Value.agg (vF V')=.agg (bH 2 3 e0) by rw[HVL.o,ge rfl];rfl)
   go_wp2_with(first|((with_reducible apply bS);first|refine yw rfl 35 rfl g12 45 (bD v4 d) K5.o 0 v4 rfl rfl ?_|(refine Dn rfl 10 39 rfl w (w.heap.size+2) rfl J3.o 2 3 e0 rfl rfl ?_;intro w9 i9 t9;have f:=F i9;clear i9 t9))|(go_at_call 22;refine(Q.o v4 _ (NA.o.iok J.o)).k λw6 U=>?_;have H3:=F<|G3.o.below U.o;clear U)|(go_at_call 20;refine(nW 3 _).k λw7 U=>?_;have J3:=F<|H3.o.below U.o;clear U))
   exact Ea results9 rfl f.o ⟨by rw[g.o],f.o.bL⟩
  |true =>
   have HV4:=F<|HVL.o.trans (gc Oc)
   go_upto_region 11 with(first|((with_reducible apply bS);refine yw rfl 35 rfl g12 45 (bD v4 d) K5.o 0 v4 rfl rfl ?_)|(go_at_call 22;refine(Q.o v4 _ (NA.o.iok J.o)).k λw6 U=>?_;obtain⟨H3,H1,Xd,K6⟩:=dT (G3.o.below U.o) (G1.o.keep U.o) (NA.o.below U.o) (K5.o.keep U.o);clear U))
   clear G1 G3 NA K5 I5 Q HVL
   go_upto_region 12 with(first|((with_reducible apply bS);first|refine fj r5 5 rfl w.heap.size s r t p.most rfl H1.o ?_|refine vR r5 45 12 rfl g12 (bD v4 d) _ underlying45 rfl mS rfl K6.o ?_|(refine aM rfl 45 rfl _ _ (pC _) ?_;refine JH rfl 13 43 rfl v7 d (fa.one' y.o) rfl rfl rfl ?_;intro w8 i8;have I8:=F i8;clear i8))|(go_at_call 24;refine(HKP.o v4 _ H3.o.bL (Xd.o.iok J.o)).m ?_;rintro e w7⟨v7,rfl,ir,U⟩;obtain⟨y,J3,J1⟩:=cZ ir (H3.o.below U) (H1.o.keep U);clear U ir))
   obtain⟨g13,a4d⟩:=V (w7.heap.size);rw[<-a4d]at I8⊢;obtain⟨M3,M1,TQ,K8⟩:=dT (J3.o.below I8.o.bL) (J1.o.keep I8.o.bL) (y.o.below I8.o.bL) I8.o.cb;obtain⟨N,mc⟩:=V (K.length);obtain⟨a7,c7,e7⟩:=y.o.len;rw[<-mc]at e7;have S1:=F mc;subst e7;clear a4d mc J1 J3 H1 H3 Xd y K6 HKP I8;by_cases C:N=0
   ·have hnil:K=[]:=az (by rw[<-S1.o];exact C)
    have g:=F (show Value.agg (vF V')=.agg (bH 2 4 e0) by rw[HV4.o,ge hnil];rfl);clear hnil;subst C
    go_wp2_with(first|((with_reducible apply bS);first|refine yw rfl 44 rfl g13 45 (bD (.slice a7 0 c7) d) K8.o 0 (.slice a7 0 c7) rfl rfl ?_|(refine Dn rfl 10 48 rfl w (w.heap.size+2) rfl N3.o 2 4 e0 rfl rfl ?_;intro w9 i9 t9;have f:=F i9;clear i9 t9))|(go_at_call 20;refine(nW 4 _).k λx7 U=>?_;have N3:=F<|M3.o.below U.o;clear U))
    exact Ea results9 rfl f.o ⟨by rw[g.o],f.o.bL⟩
   have hnn:¬K=[]:=λe=>C (by rw[S1.o,e];rfl);have qn:(((N:Nat):Int)==0)=false:=by simpa using C
   have HV5:=F<|HV4.o.trans (gc hnn);clear hnn HV4
   go_upto_region 15 with(first|((with_reducible apply bS);first|refine yw rfl 44 rfl g13 45 (bD (.slice a7 N c7) d) K8.o 0 (.slice a7 N c7) rfl rfl ?_|refine vR r5 45 13 rfl g13 (bD (.slice a7 N c7) d) _ underlying45 rfl mS rfl K8.o ?_)|(go_at_call 15;refine(MZ.o _ _ M3.o.bL (TQ.o.iok T.o)).k λx8 U=>?_;have N3:=F<|M3.o.below U.o;have N1:=F<|M1.o.keep U.o;clear U))
   clear M1 M3 TQ K8 MZ;by_cases hm2:mo<(M:Int)
   ·have g:=F (show Value.agg (vF V')=.agg (bH 2 1 e0) by rw[HV5.o,ge (by rw[<-W7.o];exact hm2)];rfl)
    go_wp2_with(first|((with_reducible apply bS);first|refine tY r5 54 rfl w.heap.size 3 24 (aY s r t p.most) N1.o (.int .i64 mo) (by rw[Yx.o];rfl) rfl ?_|(refine Dn rfl 10 57 rfl w (w.heap.size+2) rfl O3.o 2 1 e0 rfl rfl ?_;intro w9 i9 t9;have f:=F i9;clear i9 t9))|(go_at_call 20;refine(nW 1 _).k λx9 U=>?_;have O3:=F<|N3.o.below U.o;clear U))
    exact Ea results9 rfl f.o ⟨by rw[g.o],f.o.bL⟩
   have g:=F (show Value.agg (vF V')=.agg (bH 3 0 ob) by rw[HV5.o,gc (by rw[<-W7.o];exact hm2),TE.o])
   go_wp2_with((with_reducible apply bS);first|refine tY r5 54 rfl w.heap.size 3 24 (aY s r t p.most) N1.o (.int .i64 mo) (by rw[Yx.o];rfl) rfl ?_|(refine Dn rfl 10 59 rfl w (w.heap.size+2) rfl N3.o 3 0 ob rfl rfl ?_;intro w9 i9 t9;have f:=F i9;clear i9 t9))
   exact Ea results9 rfl f.o ⟨by rw[g.o],f.o.bL⟩

theorem a5O(k y d f:Int)(o a:ByteArray)(w:H):(binOp .eql 41 (.agg (bH k y o)) (.agg (bH d f a))).run prog w=.ok (.bool (decide (k=d)&&decide (y=f)&&decide (o=a))) w:=by
 have c:prog.underlying 41=some (.struct (prog.fieldsOf 41)):=Rz;have hp:prog.stoodInHeld 41=false:=Rz;rw[run_eql_struct,show(10000:Nat)=9999+1 from rfl,run_equalIn_agg w 9999 41 _ _ c hp];simp only[Program.fieldsOf,underlying41]
 have g:(o.toList==a.toList)=decide (o=a):=by
  rw[bX,gx,beq_iff_eq];constructor
  ·intro h
   have e:∀z:ByteArray,z=E z.toList:=λz=>by
    rw[show z.toList=ls z from(zj z)];exact(kt z).symm
   rw[e o,e a,h]
  exact λh=>by rw[h]
 clear c hp;generalize decide (o=a)=q at g⊢
 go_simp
 repeat' split
 all_goals simp_all
section
variable {ops:Array Oper} {rest:List Oper} {o:Oper} {a:Act} {w:H} {Q:Exit->Act->H->Prop}
theorem O0(h:Region.wanted o (yielded ops a.tmps)=true)(x y:Operand)(i:o.op=.binOp .eql 41 x y 41)(k z c f:Int)(t d:ByteArray)(q:Bool)(j:(decide (k=c)&&decide (z=f)&&decide (t=d))=q)(X:a.eval x=.agg (bH k z t))(hy:a.eval y=.agg (bH c f d))
  (K:wpList prog ops Q rest (a.put o.dst (.bool q)) w):wpList prog ops Q (o::rest) a w:=by
 refine nj h (.bool q) ?_ K;have e:=a5O k z c f t d w;have g:=run_eqGuard_agg (P:=prog) w .eql 41 x y (bH k z t) (bH c f d) Rz;unfold execOp;simp only[i,X,hy,h2,io,h1,e,g,j]
theorem eqS(c:Region.wanted o (yielded ops a.tmps)=true)(x y:Operand)(d:o.op=.binOp .eql 41 x y 41){k z:Int}{t:ByteArray}(X:a.eval x=.agg (bH k z t))(hy:a.eval y=.agg (bH k z t))
  (K:wpList prog ops Q rest (a.put o.dst (.bool true)) w):wpList prog ops Q (o::rest) a w :=
 O0 c x y d k z k z t t true Oc X hy K
theorem vB(c:Region.wanted o (yielded ops a.tmps)=true)(x:Operand)(d:o.op=.load 41 x)(b:Nat)(k y:Int)(t:ByteArray)(X:a.eval x=.pointer (some ⟨b,0,none⟩))(i:CB w b 41 (bH k y t))(K:wpList prog ops Q rest (a.put o.dst (.agg (bH k y t))) w):wpList prog ops Q (o::rest) a w :=
 vR c 41 x d b (bH k y t) _ underlying41 rfl xi X i K
theorem newV{W:H}(c:o.guard=none)(x y:Operand)(f:o.op=.store 41 x y)(k z:Int)(t:ByteArray)(e:W=w.alloc (.cells (bH 0 0 e0) 41))(X:a.eval x=.pointer (some ⟨w.heap.size,0,none⟩))(hy:a.eval y=.agg (bH k z t))
  (K:∀d,CB d w.heap.size 41 (bH k z t)->r7 w d->wpList prog ops Q rest (a.put o.dst undef) d):wpList prog ops Q (o::rest) a W :=
 jG c _ x y f (bH k z t) (bH 0 0 e0) xi rfl (all_oneCell_toArray (SG k z t)) e X hy K
theorem bw1(c:Region.wanted o (yielded ops a.tmps)=true)(d:o.op=.build 41 #[(0,.const (.int .i64 1))])(K:wpList prog ops Q rest (a.put o.dst (.agg (bH 1 0 e0))) w):wpList prog ops Q (o::rest) a w :=
 jl c _ _ d _ #[(0,.int .i64 1)] (by simp[Act.eval]) Od K
theorem bw2{y:Int}(c:Region.wanted o (yielded ops a.tmps)=true)(d:o.op=.build 41 #[(0,.const (.int .i64 2)),(1,.const (.int .i64 y))])(K:wpList prog ops Q rest (a.put o.dst (.agg (bH 2 y e0))) w):wpList prog ops Q (o::rest) a w :=
 jl c _ _ d _ #[(0,.int .i64 2),(1,.int .i64 y)] (by simp[Act.eval]) (xZ y) K
theorem bw3{t:ByteArray}(c:Region.wanted o (yielded ops a.tmps)=true)(d:o.op=.build 41 #[(0,.const (.int .i64 3)),(2,.const (.string t))])(K:wpList prog ops Q rest (a.put o.dst (.agg (bH 3 0 t))) w):wpList prog ops Q (o::rest) a w :=
 jl c _ _ d _ #[(0,.int .i64 3),(2,.string t)] (by simp[Act.eval]) (Ip t) K
end
structure M4 (w W:H) (g1 g3:Nat) (A sv hv:Z) (L:List (Nat×M9)):Prop where
 b:r7 w W
 e:Env W
 n:NE W
 u:CB W g1 34 (ai A jP)
 p:CB W g3 24 (aY sv hv aI 60)
 s:Sl W.heap.size W A (jP.path.map S)
 a:b6w W sv hv aI wL
 l:∀x∈L,CB W x.1 41 (vF x.2)
section
variable {w W:H} {g1 g3:Nat} {A sv hv:Z} {L:List (Nat×M9)}
theorem M4.below(h:M4 w W g1 g3 A sv hv L)(U:r7 W W'):M4 w W' g1 g3 A sv hv L :=
 ⟨h.b.trans (U.m h.b.size),h.e.below U,h.n.below U,h.u.keep U,h.p.keep U,(h.s.below U).more U.size,h.a.below U,λx X=>(h.l x X).keep U⟩
theorem M4.push(h:M4 w W g1 g3 A sv hv L){g:Nat}(c:CB W g 41 (vF V')):M4 w W g1 g3 A sv hv ((g,V')::L) :=
 ⟨h.b,h.e,h.n,h.u,h.p,h.s,h.a,λx X=>by
  rcases aK.mp X with rfl|X
  ·exact c
  exact h.l x X⟩
theorem M4.at(h:M4 w W g1 g3 A sv hv L)(i:Nat){g:Nat}(e:L[i]?= some (g,V')):CB W g 41 (vF V'):=h.l _ (c8W e)
end
section
variable {ops:Array Oper} {rest:List Oper} {o:Oper} {a:Act} {w W:H} {Q:Exit->Act->H->Prop} {g1 g3:Nat} {A sv hv:Z} {L:List (Nat×M9)}
end
section
variable {o:Oper} {a:Act} {w:H} {Q:Exit->Act->H->Prop} {K:Act->H->Prop}
end
theorem Y3(w:H):(Instr.alloc 24 true (Value.tuple #[])).run prog w=.ok (.pointer (some ⟨w.heap.size,0,none⟩)) (w.alloc (.cells (aY aI aI aI 0) 24)):=Rz
theorem VV{sv hv c:Z}{m:Int}(Y:sv.oneCell'=true)(I:hv.oneCell'=true)(d:c.oneCell'=true):∀u ∈ [sv,hv,c,.int .i64 m],u.oneCell'=true:=by
 intro u hu;simp only[aK,cV,or_false]at hu;rcases hu with rfl|rfl|rfl|rfl
 ·exact Y
 ·exact I
 ·exact d
 rfl
section
variable {ops:Array Oper} {rest:List Oper} {o:Oper} {a:Act} {w:H} {Q:Exit->Act->H->Prop}
theorem a0u{W:H}(d:o.guard=none)(x y:Operand)(h:o.op=.store 24 x y)(sv hv c:Z)(m:Int)(Y:sv.oneCell'=true)(I:hv.oneCell'=true)(f:c.oneCell'=true)(g:W=w.alloc (.cells (aY aI aI aI 0) 24))(X:a.eval x=.pointer (some ⟨w.heap.size,0,none⟩))(hy:a.eval y=.agg (aY sv hv c m))
  (K:∀e,CB e w.heap.size 24 (aY sv hv c m)->r7 w e->wpList prog ops Q rest (a.put o.dst undef) e):wpList prog ops Q (o::rest) a W :=
 jG d _ x y h (aY sv hv c m) (aY aI aI aI 0) wn rfl (all_oneCell_toArray (VV Y I f)) g X hy K
end

def gB:Url:={jP with aJ:=[104,116,116,112,115]}
def gP:qh:=⟨[[104,116,116,112,115],[100,97,116,97]],[[104],[46,99,46,100]],[[105,109,97,103,101,47,112,110,103]],200⟩
theorem c4f:zK gB:=⟨⟨⟨P8,P8,rfl,P8⟩,P8⟩,⟨P8,P8,P8,P8,P8,P8,P8,P8⟩,P8,P8⟩
theorem c4g:eF [104,116,116,112,115,58,47,47,104,47,97,47,98]=some gB:=Rz
theorem c4h:dA gB true=[104,116,116,112,115,58,47,47,104,47,97,47,98]:=Rz
abbrev gR1:O:=[120,32,49,120,44,47,47,101,32,50,120,44,32,104,116,116,112,115,58,47,47,81,46,67,46,68,47,39,38,97,109,112,59,44,32,100,97,116,97,58,105,109,97,103,101,47,103,105,102,44,97]
abbrev gO1:O:=[104,116,116,112,115,58,47,47,104,47,97,47,120,32,49,120,44,32,104,116,116,112,115,58,47,47,113,46,99,46,100,47,38,35,51,57,59,38,97,109,112,59]
abbrev gR2:O:=[106,97,118,97,38,84,97,98,59,115,99,114,105,112,116,58,120]
theorem gF1:dQ gP gB [105,109,103] [115,114,99,115,101,116] gR1=⟨3,0,gO1⟩:=Rz
theorem gF2:dQ gP gB [97] [104,114,101,102] gR2=iu 4:=Rz
theorem c0P(x y:ByteArray)(w:H):(Instr.buildSlice 22 2 #[(0,.string x),(1,.string y)]).run prog w=.ok (.slice (some ⟨w.heap.size,0,none⟩) 2 2) (w.alloc (.cells #[.string x,.string y] 9)):=Rz
theorem b8u(w:H)(x y:O):Sl (w.alloc (.cells #[S x,S y] 9)).heap.size (w.alloc (.cells #[S x,S y] 9)) (.slice (some ⟨w.heap.size,0,none⟩) 2 2) ([x,y].map S):=by
 have c:=CB.new w 9 #[S x,S y];refine⟨2,Oc,P8,.inr ⟨w.heap.size,0,c.lt,Oc,λj d=>?_⟩⟩;rw[bM];rcases(show j=0\/j=1 by simp at d;omega)with rfl|rfl
 ·exact c.aE rfl
 exact c.aE rfl
section
variable {ops:Array Oper} {rest:List Oper} {o:Oper} {a:Act} {w:H} {Q:Exit->Act->H->Prop}
theorem a22(d:Region.wanted o (yielded ops a.tmps)=true)(y z:Operand)(f:o.op=.buildSlice 22 2 #[(0,y),(1,z)])(x u:O)(hy:a.eval y=S x)(g:a.eval z=S u)
  (h:∀b c,r7 w c->Sl c.heap.size c (.slice (some ⟨b,0,none⟩) 2 2) ([x,u].map S)->wpList prog ops Q rest (a.put o.dst (.slice (some ⟨b,0,none⟩) 2 2)) c):wpList prog ops Q (o::rest) a w:=by
 unfold wpList;rw[ge d];refine .inl ?_;unfold Oper.wp execOp;have e:(#[(0,y),(1,z)]:Array (Nat×Operand)).map (λ(i,x)=>(i,a.eval x))=#[(0,S x),(1,S u)]:=by simp[hy,g]
 simp only[f,h2,io,h1,e,c0P];exact h _ _ ((gT _ _).alloc (ag _) _) (b8u w x u)
end
structure KG (w W:H) (g1 g3:Nat) (A sv hv tv:Z) (L:List (Nat×M9)):Prop where
 b:r7 w W
 e:Env W
 n:NE W
 u:CB W g1 34 (ai A gB)
 p:CB W g3 24 (aY sv hv tv 200)
 s:Sl W.heap.size W A (gB.path.map S)
 a:b6w W sv hv tv gP
 l:∀x∈L,CB W x.1 41 (vF x.2)
section
variable {w W:H} {g1 g3:Nat} {A sv hv tv:Z} {L:List (Nat×M9)}
theorem KG.below(h:KG w W g1 g3 A sv hv tv L)(U:r7 W W'):KG w W' g1 g3 A sv hv tv L :=
 ⟨h.b.trans (U.m h.b.size),h.e.below U,h.n.below U,h.u.keep U,h.p.keep U,(h.s.below U).more U.size,h.a.below U,λx X=>(h.l x X).keep U⟩
theorem KG.push(h:KG w W g1 g3 A sv hv tv L){g:Nat}(c:CB W g 41 (vF V')):KG w W g1 g3 A sv hv tv ((g,V')::L) :=
 ⟨h.b,h.e,h.n,h.u,h.p,h.s,h.a,λx X=>by
  rcases aK.mp X with rfl|X
  ·exact c
  exact h.l x X⟩
theorem KG.at(h:KG w W g1 g3 A sv hv tv L)(i:Nat){g:Nat}(e:L[i]?= some (g,V')):CB W g 41 (vF V'):=h.l _ (c8W e)
theorem b8z(h:KG w W g1 g3 A sv hv tv L){el nm raw:O}{c:Z}(j:Sl W.heap.size W c (Lib.byteCells raw))(g:dQ gP gB el nm raw=V')(i:raw.length<=300/\el.length<=300/\nm.length<=300) :
  Calls prog 9 #[.agg (aY sv hv tv 200),.agg (ai A gB),.string (E el),.string (E nm),c] W λe f=>e=.returned (.agg (vF V'))/\KG w f g1 g3 A sv hv tv L:=by
 have d:=vr gP gB el nm raw c sv hv tv A W h.a c4f h.s (by decide +kernel) ⟨M0,M0⟩ j (λe=>vw gP (T:=300) ⟨M0,M0⟩ (by rw[c4h];decide) e i.1) h.e h.n;rw[g]at d;exact d.m (λe f ⟨Y,I⟩=>⟨Y,h.below I⟩)
end
section
variable {ops:Array Oper} {rest:List Oper} {o:Oper} {a:Act} {w W:H} {Q:Exit->Act->H->Prop} {g1 g3:Nat} {A sv hv tv:Z} {L:List (Nat×M9)}
theorem c1p(z:O)(e:o.guard=none)(x:Operand)(f:o.op=.convert 25 25 x){C:Array Z}{n:Nat}(d:z.length=n/\n<=100)(g:(Lib.byteCells z).toArray=C)(h:KG w W g1 g3 A sv hv tv L)(X:a.eval x=.slice (some ⟨W.heap.size,0,none⟩) n n)
  (K:∀c,KG w c g1 g3 A sv hv tv L->Sl c.heap.size c (.slice (some ⟨W.heap.size,0,none⟩) n n) (Lib.byteCells z)->wpList prog ops Q rest (a.put o.dst (.slice (some ⟨W.heap.size,0,none⟩) n n)) c):wpList prog ops Q (o::rest) a (W.alloc (.cells C 5)):=by
 refine iq e _ _ x f _ X (k7 C n W) (K _ (h.below ((gT _ _).alloc (ag _) _)) ?_);have s:=lh z W (am (d.1▸d.2) P8) (C.size,C.size+1);rw[g,d.1]at s;exact s
theorem newG(e:o.guard=none)(x y:Operand)(f:o.op=.store 41 x y)(h:KG w W g1 g3 A sv hv tv L)(X:a.eval x=.pointer (some ⟨W.heap.size,0,none⟩))(hy:a.eval y=.agg (vF V'))
  (K:∀d,KG w d g1 g3 A sv hv tv ((W.heap.size,V')::L)->wpList prog ops Q rest (a.put o.dst undef) d):wpList prog ops Q (o::rest) a (W.alloc (.cells (bH 0 0 e0) 41)) :=
 newV e x y f V'.kind V'.why (E V'.o) rfl X hy (λd c b=>K d ((h.below b).push c))
end
theorem a12(w:H)(T:Env w)(hN:NE w):bF prog 4 #[] w (.bool true):=by
 have hp:=xg [104,116,116,112,115,58,47,47,104,47,97,47,98] w P8 T;rw[c4g]at hp;obtain⟨HP,HE,HN⟩:=cZ (show Calls prog 17 #[.string ⟨#[104,116,116,112,115,58,47,47,104,47,97,47,98]⟩] w λe w'=>∃A,e=.returned (.tuple #[.agg (ai A gB),.bool true])/\w'.ownsRow w.heap.size 9 1 A gB.path.length (Strs gB.path)/\r7 w w' from hp) T hN;clear hp T hN;go_enter func4,ntmps4
 go_upto_region 4 with(first|(go_at_call 17;refine(HP.o).m ?_;rintro e w1⟨A,rfl,oo,U⟩;have M:=F oo;have D:=F U;clear oo U)|((with_reducible apply bS);refine aM rfl 34 rfl _ _ (eD _) ?_;refine fL rfl 1 8 rfl A gB rfl (bm M.o) rfl rfl rfl ?_;intro w2 I U;obtain⟨P,B2,O2⟩:=cZ I (D.o.trans (U.m D.o.size)) (own_below' M.o U);clear U I))
 clear D M HP;generalize w1.heap.size=g1 at P⊢
 go_upto_region 5 with((with_reducible apply bS);first|(refine a22 r5 (.const (.string ⟨#[104,116,116,112,115]⟩)) (.const (.string ⟨#[100,97,116,97]⟩)) rfl [104,116,116,112,115] [100,97,116,97] rfl rfl ?_;intro ba w3 U f;obtain⟨B3,U3,O3,l⟩:=dT (dw B2.o U) (P.o.keep U) (own_below' O2.o U) f;clear U f)|(refine a22 r5 (.const (.string ⟨#[104]⟩)) (.const (.string ⟨#[46,99,46,100]⟩)) rfl [104] [46,99,46,100] rfl rfl ?_;intro bc w4 U f;obtain⟨B4,U4,O4,q,h⟩:=ec (dw B3.o U) (U3.o.keep U) (own_below' O3.o U) ((l.o.below U).more U.size) f;clear U f)|(refine Oh r5 (.const (.string ⟨#[105,109,97,103,101,47,112,110,103]⟩)) rfl [105,109,97,103,101,47,112,110,103] rfl ?_;intro R w4x U f;obtain⟨d,r,i,v,t,y⟩:=ee (dw B4.o U) (U4.o.keep U) (own_below' O4.o U) ((q.o.below U).more U.size) ((h.o.below U).more U.size) f;clear U f)|(refine aM rfl 24 rfl _ _ (Y3 _) ?_;refine a0u rfl 3 15 rfl (.slice (some ⟨ba,0,none⟩) 2 2) (.slice (some ⟨bc,0,none⟩) 2 2) (.slice (some ⟨R,0,none⟩) 1 1) 200 rfl rfl rfl rfl rfl rfl ?_;intro w5 h5 U;have N:=F h5;have c:=F U;clear h5 U))
 obtain⟨g3,B⟩:=V (w4x.heap.size);rw[<-B]at N⊢;have J:=fo (KG w w5 g1 g3 A (.slice (some ⟨ba,0,none⟩) 2 2) (.slice (some ⟨bc,0,none⟩) 2 2) (.slice (some ⟨R,0,none⟩) 1 1) []) ⟨dw d.o c.o,HE.o.below (dw d.o c.o),HN.o.below (dw d.o c.o),r.o.keep c.o,N.o,(Sl.g9 (sB (own_below' i.o c.o))),⟨(v.o.below c.o).more c.o.size,(t.o.below c.o).more c.o.size,(y.o.below c.o).more c.o.size,P8,P8⟩,λx X=>by cases X⟩;clear B B2 B3 B4 d P U3 U4 r O2 O3 O4 i l q v h t y N c HE HN;generalize (Value.slice (some ⟨ba,0,none⟩) 2 2)=sv at J⊢;generalize (Value.slice (some ⟨bc,0,none⟩) 2 2)=hv at J⊢;generalize (Value.slice (some ⟨R,0,none⟩) 1 1)=tv at J⊢
 go_upto_region 6 with(first|((with_reducible apply bS);first|refine fj r5 _ rfl g3 sv hv tv 200 rfl J.o.p ?_|refine cR r5 _ rfl g1 A gB rfl rfl J.o.u ?_|(refine c1p gR1 rfl _ rfl (n:=51) P8 Rz J.o rfl ?_;clear J;intro C k s;have J:=F k;have j:=F s;clear k s)|(refine aM rfl 41 rfl _ _ (tV _) ?_;refine newG rfl _ _ rfl J.o rfl rfl ?_;clear J;intro w7 k;generalize C.heap.size=g at k⊢;have J:=F k;clear k))|(go_at_call 9;refine(b8z J.o j.o gF1 P8).m ?_;clear J j;rintro e C⟨rfl,k⟩;have J:=F k;clear k))
 go_upto_region 7 with(first|((with_reducible apply bS);first|refine fj r5 _ rfl g3 sv hv tv 200 rfl J.o.p ?_|refine cR r5 _ rfl g1 A gB rfl rfl J.o.u ?_|(refine c1p gR2 rfl _ rfl (n:=17) P8 Rz J.o rfl ?_;clear J;intro C k s;have J:=F k;have j:=F s;clear k s)|(refine aM rfl 41 rfl _ _ (tV _) ?_;refine newG rfl _ _ rfl J.o rfl rfl ?_;clear J;intro w7 k;generalize C.heap.size=g at k⊢;have J:=F k;clear k))|(go_at_call 9;refine(b8z J.o j.o gF2 P8).m ?_;clear J j;rintro e C⟨rfl,k⟩;have J:=F k;clear k))
 obtain⟨A4,A5,JB⟩:=cZ (show CB _ _ _ (bH 3 0 ⟨#[104,116,116,112,115,58,47,47,104,47,97,47,120,32,49,120,44,32,104,116,116,112,115,58,47,47,113,46,99,46,100,47,38,35,51,57,59,38,97,109,112,59]⟩)from J.o.at 1 rfl) (show CB _ _ _ (bH 2 4 ⟨#[]⟩)from J.o.at 0 rfl) J.o.b;clear J
 go_wp2_with((with_reducible apply bS);first|refine vB r5 4 rfl _ _ _ _ rfl A4.o ?_|refine vB r5 5 rfl _ _ _ _ rfl A5.o ?_|refine bw2 r5 rfl ?_|refine bw3 r5 rfl ?_|refine eqS r5 _ _ rfl rfl rfl ?_)
 go_ret;exact⟨rfl,JB.o⟩
