import Derived.Test.YtagfilhbpnjhkaaGreatDoorFGTrP
set_option maxRecDepth 10000
set_option maxHeartbeats 0
namespace Go.Proofs.YtagfilhbpnjhkaaGreatDoor
open Go.Proofs.Q
open Tryz Go.RowKit
theorem EB(s:O):(EZ s).length=1->∃m,s.length=m+1:=λh=>by
 cases s with
 |nil=>exact absurd h P8
 |cons x r=>exact⟨r.length,rfl⟩
theorem topSame_walk(p:qh)(sv hv tv:Z)(t:ByteArray)(kind:Int)(rv:Z)(raw:O)(w:H)(hp:BB w sv hv tv p)(_:t.size<=maxLen)(_:(Lit.int .i64 kind).wf=true)(hr:Sl w.heap.size w rv (Lib.byteCells raw))(ub:t.size<=1048576)(hE:Env w)(hN:NE w) :
  bF prog 3 #[.agg (aY sv hv tv p.most),.string t,.int .i64 kind,rv] w (.bool true):=by
 have YF:=F<|λW (U:r7 w W)=>a12 W (hE.below U) (hN.below U);have UZ:=F<|λW (U:r7 w W)=>KV p sv hv tv W (hp.below U);obtain⟨u,q,h8,hq,hba⟩:=a11 t w ub hE;obtain⟨H8,HQ,xt⟩:=cZ h8 hq hba;obtain⟨L,hL⟩:=V (raw.length)
 obtain⟨av,cv,rfl⟩:∃a c,rv=.slice a L c:=by
  rcases AU hr with⟨rfl,a,c,rfl⟩|⟨b,o,c,_,_,rfl,_⟩
  ·exact⟨a,c,by rw[hL];rfl⟩
  exact⟨_,c,by rw[hL]⟩
 obtain⟨HL,HP,HR,HE,HN⟩:=ec hL hp hr hE hN;obtain⟨W,hw,c1,G⟩:=a3E w 24 (aY sv hv tv p.most);obtain⟨C1,B2,HW⟩:=cZ c1 G hw;clear c1 G hw hL hp hr hE hN h8 hq hba;go_enter func3,ntmps3
 go_upto_region 1 with fail
 rw[HW.o]
 go_upto_region 4 with(first|(go_at_call 4;refine(YF.o _ B2.o).k λw3 U=>?_;have B3:=F<|dw B2.o U.o;have D1:=F<|C1.o.keep U.o;clear U)|((with_reducible apply bS);first|refine fj r5 4 rfl w.heap.size sv hv tv p.most rfl D1.o ?_|(refine aM rfl 34 rfl _ _ (eD _) ?_;refine fL rfl 11 30 rfl A u H8.o O5.o rfl rfl rfl ?_;intro w6 h3 U;have B6:=F<|dw B5.o U;have K:=fo (pj w w6 p sv hv tv (.slice av L cv) raw w5.heap.size A u []) ⟨B6.o,HE.o.below B6.o,HN.o.below B6.o,G1.o.keep U,HP.o.below B6.o,(HR.o.below B6.o).more B6.o.size,h3,(S5.o.below U).more U.size,λx X=>by cases X⟩;clear h3 U))|(go_at_call 5;refine(UZ.o _ B3.o).m ?_;rintro e w4⟨⟨b1,rfl,hf1⟩,U⟩;obtain⟨F1,B4,E1⟩:=cZ hf1 (dw B3.o U) (D1.o.keep U);clear U hf1)|(go_at_call 6;refine(xt.o _ B4.o).m ?_;rintro e w5⟨A,rfl,Y,hs,_,U⟩;obtain⟨B5,G1,S5,O5⟩:=dT (dw B4.o U) (E1.o.keep U) hs Y;clear U hs Y))
 generalize w5.heap.size=g11 at K⊢;clear C1 B2 HW YF UZ xt B3 D1 B4 E1 B5 G1 S5 O5 HE HN HP HR B6;cases b1 with
 |false =>
  go_wp2_with fail;go_ret;exact⟨rfl,K.o.b⟩
 |true =>
 cases q with
 |false =>
  go_wp2_with fail;go_ret;exact⟨rfl,K.o.b⟩
 |true =>
 by_cases h3:(300:Int)<L
 ·go_wp2_with fail
  go_ret;exact⟨rfl,K.o.b⟩
 by_cases h0:kind<0
 ·go_wp2_with fail
  go_ret;exact⟨rfl,K.o.b⟩
 obtain⟨el,hel,nm,hnm⟩:=ac (S (kp kind).1) (S (kp kind).2);have HPL:=F<|λW=>(show bP prog 7 #[.int .i64 kind] W (.tuple #[el,nm])from by rw[hel,hnm];exact uk kind W M0);obtain⟨U,ht⟩:=HQ.o rfl;have hlr:raw.length<=300:=by have:=HL.o;omega
 have hlen:=b8n kind;obtain⟨g,B⟩:=V (gA (kp kind).1 (kp kind).2)
 have W4:=F<|λW=>(show bF prog 8 #[el,nm] W (.int .i64 g)from by
  rw[hel,hnm,B];exact Dc _ _ W M0 M0)
 have hub:zK u:=a2s (s:=ls t) M0 U;have hgu:=kG U;have hfl:Tj p g u raw:=by rw[B];exact vw p (T:=300) ⟨M0,M0⟩ ht U hlr
 obtain⟨z,hV⟩:=V (dQ p u (kp kind).1 (kp kind).2 raw)
 have WV:=F<|λW (h:pj w W p sv hv tv (.slice av L cv) raw g11 A u [])=>(show bF prog 9 #[.agg (aY sv hv tv p.most),.agg (ai A u),el,nm,.slice av L cv] W (.agg (vF z))from by
  rw[hel,hnm,hV];exact vr p u _ _ raw _ sv hv tv A W (h.v.at (F1.o rfl)) hub h.s (am (AQ (oG (L:=300) ht M0 U) (qQ hgu) (ag _)) M0) ⟨M0,M0⟩ h.r (λ_=>by rw[<-B];exact hfl) h.e h.n)
 obtain⟨RL,C⟩:=V ((mg g u (jw raw)).items);obtain⟨RI,Q,d,hd⟩:=ac (RL.filter (jO p g)) ((mg g u (jw raw)).delay)
 have Be:=F<|λLL W (h:pj w W p sv hv tv (.slice av L cv) raw g11 A u LL)=>(show Calls prog 10 #[.int .i64 g,.agg (ai A u),.slice av L cv] W (jz W ⟨RL,d⟩)from by
  have:=Du g u A raw _ W H8.o h.s hub.b h.r hfl.v h.e;rw[show mg g u (jw raw)=⟨RL,d⟩ by rw[C,hd]]at this;exact this)
 have hIU:ILk RL:=by rw[C];exact Pn hfl
 have hUL:ILk RI:=⟨λi hi=>hIU.u i (by rw[Q]at hi;exact(a3J.mp hi).1),by rw[Q];exact am (dO _ _) hIU.n⟩
 have MZ:=F<|λ(x:Z) W (X:Items W.heap.size W x RI) (hN:NE W)=>(show bF prog 15 #[.int .i64 g,.agg (bD x d)] W (S (kK g RI d))from
  FC g RI x d W X (λi hi=>(hUL.u i hi).1.sm) (by rw[Q,C];exact hfl.m) (by have:=hUL.n;omega) (by rw[hd];exact hfl.d) hN)
 have hkeq:g≠0->z.kind=3->mg g u (jw z.o)=⟨RI,d⟩/\Tj p g u z.o/\RI ≠ []:=λ_ h=>by
  have k:a7g p u (kp kind).1 (kp kind).2 raw z:=by rw[hV]at h⊢;exact a59 h
  refine⟨?_,?_,?_⟩
  ·rw[Q,C,hd,B];exact a6M hgu k
  ·rw[B];exact b0D ht U hlr k
  rw[Q,C,B];exact k.ne
 have Bw:=F<|λ(hk:g≠0) (h3:z.kind=3) (LL:List (Nat×M9)) W (h:pj w W p sv hv tv (.slice av L cv) raw g11 A u LL) (ev:Z) (hs:Sl W.heap.size W ev (Lib.byteCells z.o))=>(show Calls prog 10 #[.int .i64 g,.agg (ai A u),ev] W (jz W ⟨RI,d⟩)from by
  have I:=Du g u A z.o ev W H8.o h.s hub.b hs (hkeq hk h3).2.1.v h.e;rw[(hkeq hk h3).1]at I;exact I)
 have HNE:=fo (g≠0->z.kind=3->RI ≠ []/\z.o.length<=maxLen) (λhk h3=>⟨(hkeq hk h3).2.2,by
  have:=(hkeq hk h3).2.1.v.n;unfold maxLen;omega⟩)
 have px:=fo (g=0->z=⟨1,0,[]⟩) (λh=>by rw[hV];unfold dQ;rw[<-B,ge h])
 have HDR:=fo (g≠0->z.kind≠3->∃y:Int,z=iu y/\y≠2/\(RI=[]\/p.most<(raw.length:Int)\/(RI ≠ []/\p.most<((kK g RI d).length:Int)))/\((y≠4/\y≠3)\/RI=[])) (λhk h=>by
  have:=EW (p:=p) (b:=u) (el:=(kp kind).1) (nm:=(kp kind).2) (raw:=raw) (by rw[<-B];exact hk) ((p7 u).mpr (RA hgu)) (by rw[hV]at h;exact h);unfold ns at this;rw[<-hV,<-B]at this;rw[Q,C,hd];exact this)
 have HPK:=F<|λ(i:eu) (hi:i∈RL)=>(show jO p g i=(i.right&&uP p i.url&&(decide (g≠2)||(decide ((EZ (dA i.url true)).length=1)&&decide (trimB mw (dA i.url true)=dA i.url true) && !(Lib.hasSuffix (dA i.url true) [44]))))from
  a15 λhrt=>a7c hgu i (by rw[C]at hi;exact hi) hrt)
 obtain⟨HSR,HIU,HUL,MY,HIR,HF9,HRI⟩:=ep (λ(i:eu) (hi:i∈RL)=>V1 (kind:=g) (s:=jw raw) (T:=300) ⟨M0,M0⟩ ht (by have:=WC hlr;omega) U i (by rw[C]at hi;exact hi)) hIU hUL (λ(x y:Z) (P:H) (Y:Items P.heap.size P x RI) (I:Items P.heap.size P y RI)=>b6s ⟨RI,d⟩ x y P Y I (am hUL.n P8)) (λ(P:H) (base:Nat) (x:Z) (c:fa P base x RI)=>c.iok hUL) (F1.o rfl) Q;obtain⟨vk,hvk,vy,hvy,vo,hvo⟩:=ax (z.kind) (z.why) (z.o);have HVC:=F (show vF z=bH vk vy (E vo) by rw[hvk,hvy,hvo]);rw[HVC.o]at WV;rw[<-hvo,<-hvk]at Bw HNE;rw[<-hvk]at HDR;have HDV:=fo (∀y,z=iu y->vk=2/\vy=y) (λy h=>by rw[hvk,hvy,h];exact⟨rfl,rfl⟩);have HD0:=fo (z=⟨1,0,[]⟩->vk=1/\vy=0/\E vo=e0) (λh=>by rw[hvk,hvy,hvo,h];exact⟨rfl,rfl,rfl⟩);clear hV hel hnm U ht hlr F1 HQ hvk hvy hvo B Q C hd hkeq hub hgu hfl hIU hUL hlen
 go_upto_region 7 with(go_at_call 7;refine(HPL.o _).e ?_)
 go_upto_region 9 with(first|(go_at_call 8;refine(W4.o _).k λw7 U=>?_;have KK:=F<|K.o.below U.o;clear U)|((with_reducible apply bS);first|refine fj r5 4 rfl w.heap.size sv hv tv p.most rfl KK.o.c ?_|refine cR r5 11 rfl g11 A u H8.o rfl KK.o.y ?_|(refine aM rfl 41 rfl _ _ (tV _) ?_;refine newV rfl 16 61 rfl vk vy (E vo) rfl rfl rfl ?_;intro w9 I U;rw[<-HVC.o]at I;have K8:=F<|(K7.o.below U).push I;clear U I))|(go_at_call 9;refine(WV.o _ KK.o).k λw8 U=>?_;have K7:=F<|KK.o.below U.o;clear U))
 obtain⟨g16,hg⟩:=V (w8.heap.size);rw[<-hg]at K8⊢;have PZ:=F<|λW (h:pj w W p sv hv tv (.slice av L cv) raw g11 A u [(g16,z)])=>(show CB W g16 41 (bH vk vy (E vo))from by rw[<-HVC.o];exact h.l (g16,z) Oc);clear hg K KK K7 WV HPL HVC W4;by_cases k0:g=0
 ·obtain⟨rfl,rfl,ho⟩:=HD0.o (px.o k0)
  have A4:=fo (CB w9 g16 41 (bH 1 0 e0)) (by rw[<-ho];exact PZ.o _ K8.o);subst k0;clear ho PZ Bw HNE HDR HDV HD0 px
  go_wp2_with((with_reducible apply bS);first|refine vB r5 16 rfl _ _ _ _ rfl A4.o ?_|refine bw1 r5 rfl ?_|refine eqS r5 _ _ rfl rfl rfl ?_)
  go_ret;exact⟨rfl,K8.o.b⟩
 have qk:(g==0)=false:=by simpa using k0
 obtain⟨db,hdb⟩:=V (E d);obtain⟨HD,HD2,b8Z,b8Y,b8T⟩:=ec (λx:Z=>(show bD x d=#[x,.string db] by rw[hdb])) (λx:Z=>(show Value.agg #[x,.string db]=.agg (bD x d) by rw[hdb])) (Bw.o k0) (HNE.o k0) (HDR.o k0);clear Bw HNE HDR HD0 px hdb
 go_upto_region 12 with(first|((with_reducible apply bS);first|refine cR r5 11 rfl g11 A u H8.o rfl K8.o.y ?_|(refine aM rfl 45 rfl _ _ (pC _) ?_;refine JH rfl 17 73 rfl vr d TR.o.one' rfl rfl rfl ?_;intro Eb i7;have I7:=F i7;clear i7))|(go_at_call 10;refine(Be.o _ _ K8.o).m ?_;rintro e xr⟨vr,rfl,ir,U⟩;have K9:=F<|K8.o.below U;have TR:=F ir;clear ir U))
 clear qk Be;obtain⟨KW,C17,XI⟩:=cZ (K9.o.below I7.o.bL) I7.o.cb ((TR.o.below I7.o.bL).iok HIU.o);obtain⟨g17,hg⟩:=V (xr.heap.size);rw[<-hg]at C17⊢;obtain⟨N,XF⟩:=V (RL.length);have hNb:N<=900000000:=by rw[XF];exact HIU.o.n
 have HN:=F XF;obtain⟨ar,cr,Vm⟩:=TR.o.len;rw[<-XF]at Vm;subst Vm;have HD3:=F (show(bD (.slice ar N cr) d)[1]?= some (.string db) by rw[HD.o];rfl);clear hg XF K8 K9 TR I7
 go_upto_region 14 with((with_reducible apply bS);first|refine kA rfl 74 rfl g17 45 (bD (.slice ar N cr) d) C17.o 1 (.string db) HD3.o rfl ?_|(refine bR rfl 45 #[(1,.tmp 75)] rfl (.agg #[aI,.string db]) #[(1,.string db)] (by simp only[m9,dh,pz];rfl) (b7U db) ?_;refine aM rfl 45 rfl _ _ (pC _) ?_;refine JH rfl 18 76 rfl aI d rfl rfl rfl (HD2.o _) ?_;intro wr0 i7;have OX0:=F i7;clear i7))
 obtain⟨wy,hq⟩:=V (Eb.heap.size);have HQ7:=F hq;rw[<-hq]at OX0⊢;clear hq HD3 HD HD2;generalize jO p g=f at HPK HRI
 go_loopw [19,20,21,22] (λiv _ _ _ wr=>∃(k:Nat) (v7:Z),k<=N/\iv=.int .i64 k/\Hid (OB Eb wy 45 (bD v7 d) wr)/\Hid (b3D Eb wr Eb.heap.size (wy+1) v7 ((RL.take k).filter f))) (λi _ _ _ _=>N-(intOf i).toNat)
 exact⟨0,aI,aL _,rfl,OX0,F (b3D.nil _ _ _ _)⟩
 clear OX0;obtain⟨k,v7,hk,rfl,OX,QR⟩:=hrel;have KR:=F<|KW.o.below OX.o.bL;have D2:=F<|C17.o.keep OX.o.bL;by_cases hkN:k<N
 ·have hkl:k<RL.length:=by have:=HN.o;omega
  obtain⟨it,hit⟩:=V (RL[k]);have hm:it∈RL:=by rw[hit];exact be hkl
  have htk:=KX f hkl;rw[<-hit]at htk;obtain⟨b,o,rfl,hbb,pw,wv,hr,y1,hpv,hwv⟩:=oh XI.o k hkl;rw[<-hit]at hr hpv hwv y1;obtain⟨HRR,uh,H6,QP⟩:=dT (show wr.rangeAt b (o+k*25) (bN pw wv it)from λj x hj=>(OX.o.bL.cell (p:=⟨b,o+k*25+j,none⟩) hbb).trans (hr j x hj)) htk y1.h.l (show b6q Eb Eb.heap.size ((pw,wv),it)from⟨y1,rq hpv,rq hwv,hpv,hwv⟩);have hu1:=HIU.o.u it hm;have FU:=HPK.o it hm;obtain⟨s,hs⟩:=V (dA it.url true);rw[<-hs]at FU;obtain⟨sb,hsb⟩:=V (E s);have hsl:s.length<=1000000000:=by rw[hs];exact HSR.o it hm
  have HSW:=F<|λW (U:r7 Eb W)=>(show bF prog 11 #[.agg (ai pw it.url),.bool true] W (.string sb)from by rw[hsb,hs];exact b8W it.url pw W hu1.1 ((hpv.below U).more U.size) (KW.o.n.below U));obtain⟨r1,hr1⟩:=V (it.right);have ka:=F (show(bC pw wv it)[0]?= some (.bool r1) by rw[hr1];rfl);obtain⟨r2,hr2⟩:=V (uP p it.url);have HAC:=F<|λW (U:r7 Eb W)=>(show bF prog 14 #[.agg (aY sv hv tv p.most),.agg (ai pw it.url)] W (.bool r2)from by rw[hr2];exact RB p it.url sv hv tv pw W ((KW.o.v.below U).at HF9.o) hu1.1 ((hpv.below U).more U.size) hu1.2.1);rw[<-hr1,<-hr2]at FU;obtain⟨wl,hwl⟩:=V ((EZ s).length);have HWD:=F<|λW=>(show Calls prog 12 #[.string sb] W λe w'=>∃a c,e=.returned (.slice a wl c)/\r7 W w' from by rw[hsb,hwl];exact a14 s W M0);obtain⟨stb,b9c⟩:=V (E (trimB mw s));have HST:=F<|λW=>(show bP prog 13 #[.string sb] W (.string stb)from by rw[hsb,b9c];exact Mv s W M0);have a4G:(stb.toList==sb.toList)=decide (trimB mw s=s):=by rw[b9c,hsb,aB,aB,jB]
  rw[<-hwl]at FU;generalize decide (trimB mw s=s)=a3 at FU a4G;obtain⟨eM,HSB,HSL,HWL,HFF⟩:=ec (show sb.size=s.length by rw[hsb,aF]) hsb hsl hwl FU;clear y1 hr hpv hwv htk hit hbb hkl hr1 hr2 hm hu1 FU hs hsb hsl hwl b9c
  go_upto_region 17 with((with_reducible apply bS);first|refine yw rfl 78 rfl g17 45 (bD (.slice (some ⟨b,o,none⟩) N cr) d) D2.o 0 (.slice (some ⟨b,o,none⟩) N cr) rfl rfl ?_|refine yw rfl 84 rfl g17 45 (bD (.slice (some ⟨b,o,none⟩) N cr) d) D2.o 0 (.slice (some ⟨b,o,none⟩) N cr) rfl rfl ?_|refine lm r5 48 87 rfl b (o+k*25) rfl (bN pw wv it) _ HRR.o underlying48 rfl (by rw[lL H6.o];exact mG) ?_|(refine aM rfl 48 rfl _ _ (Ia _) ?_;refine a4Z rfl 20 88 rfl pw wv it H6.o QP.o.o1 QP.o.o2 rfl rfl rfl ?_;intro w4 i4;have I4:=F i4;clear i4))
  obtain⟨q20,hq⟩:=V (wr.heap.size);rw[<-hq]at I4⊢;obtain⟨X4,QR4,HU4⟩:=cZ (OX.o.below I4.o.bL) (QR.o.below I4.o.bL) (Qq I4.o.cb);clear hq HRR D2 QR KR
  go_upto_region 18 with(first|((with_reducible apply bS);refine Ac r5 89 rfl q20 1 pw it.url H6.o rfl HU4.o ?_)|(go_at_call 11;refine(HSW.o _ X4.o.bL).k λw5 U=>?_;obtain⟨X5,QR5,I5⟩:=cZ (X4.o.below U.o) (QR4.o.below U.o) (I4.o.below U.o);clear U))
  clear X4 QR4 HU4 I4 HSW;obtain⟨r3,hr3⟩:=V ((decide (g≠2)||(decide (wl=1)&&a3 && !(Lib.hasSuffix s [44]))));have HR3:=F hr3;have HPF:=F (show f it=(r1&&r2&&r3) by rw[HFF.o,hr3]);clear hr3 HFF
  go_cut [22]from 92 to 113 (λcv wx=>cv=.bool r3/\Hid (r7 w5 wx))
  case first =>
   by_cases hk2:g=2
   ·have qk2:(g != 2)=false:=by rw[hk2];rfl
    have HX:=F (show r3=(decide (wl=1)&&a3 && !(Lib.hasSuffix s [44])) by rw[HR3.o,gh (λh=>h hk2)];rfl);clear HR3 hk2;by_cases ew:wl=1
    ·have qw:((wl:Int)==1)=true:=by rw[ew];rfl
     obtain⟨m,hm⟩:=EB s (by rw[<-HWL.o];exact ew);have hms:m<sb.size:=by have:=eM.o;omega
     have X:((sb[m]'hms).toNat:Int)=G (s[m]' M0):=cy HSB.o hms M0;have hsf:=b9r hm;obtain⟨c4,hc4⟩:=V (G (s[m]' M0));rw[<-hc4]at X hsf;obtain⟨Z',hZ⟩:=V (sb.size);have hsZ:sb.size=Z':=hZ.symm;have hZm:Z'=m+1:=by have:=eM.o;omega
     have hwr:IntKind.i64.wrap ((Z':Int)-1)=(m:Int):=by rw[show(Z':Int)-1=(m:Int) by omega];exact gS _ (by have:=HSL.o;omega)
     have HY:=F (show r3=(a3&&(c4 != 44)) by rw[HX.o,hsf,gr ew];by_cases e:c4=44 <;>simp[e]);clear hm hc4 hZ hZm hsf HX ew;cases a3 <;>
     ·go_wp2_with(first|(go_at_call 12;refine(HWD.o _).m ?_;rintro e w2⟨aw,cw,rfl,U⟩;have J2:=F U;clear U)|(go_at_call 13;refine(HST.o _).e ?_))
      go_meet
      exact⟨by rw[HY.o];rfl,J2⟩
    have qw:((wl:Int)==1)=false:=by
     have:¬(wl:Int)=1:=M0
     simpa using this
    have HY2:=F (show r3=false by rw[HX.o,gh ew];rfl);clear a4G HX ew
    go_wp2_with(go_at_call 12;refine(HWD.o _).m ?_;rintro e w2⟨aw,cw,rfl,U⟩;have J2:=F U;clear U)
    go_meet
    exact⟨by rw[HY2.o],J2⟩
   have qk2:(g != 2)=true:=by simpa using hk2
   have HY2:=F (show r3=true by rw[HR3.o,gr hk2];rfl);clear a4G HR3;go_wp2_with fail
   go_meet
   exact⟨by rw[HY2.o],F (gT _ _)⟩
  case rest =>
   obtain⟨rfl,BC⟩:=hcut;generalize wc=w6 at BC⊢;clear a4G HWD HST eM HSB HSL HWL HR3;obtain⟨X6,QR6,I6⟩:=cZ (X5.o.below BC.o) (QR5.o.below BC.o) (I5.o.below BC.o);have C6:=F I6.o.cb;have HU6:=F<|Qq C6.o;have P6:=F<|KW.o.c.keep X6.o.bL;clear X5 QR5 I5 BC
   rcases(show(r1=false/\f it=false)\/(r1=true/\r2=false/\f it=false)\/(r1=true/\r2=true/\r3=false/\f it=false)\/(r1=true/\r2=true/\r3=true/\f it=true)from by
    rw[HPF.o];cases r1 <;>cases r2 <;>cases r3 <;>simp)with⟨rfl,D⟩|⟨rfl,rfl,D⟩|⟨rfl,rfl,rfl,D⟩|⟨rfl,rfl,rfl,D⟩
   ·have HT2:=F (show(RL.take (k+1)).filter f=(RL.take k).filter f by rw[uh.o,D];simp)
    clear D
    go_wp2_with((with_reducible apply bS);refine vA rfl 114 rfl q20 48 (bC pw wv it) C6.o 0 (.bool false) ka.o rfl ?_)
    go_roundw
    exact⟨k+1,v7,M0,by go_num,X6,F (by rw[HT2.o];exact QR6.o)⟩
    exact aa
   iterate 2
    ·have HT2:=F (show(RL.take (k+1)).filter f=(RL.take k).filter f by rw[uh.o,D];simp)
     clear D
     go_wp2_with(first|((with_reducible apply bS);first|refine vA rfl 114 rfl q20 48 (bC pw wv it) C6.o 0 (.bool true) ka.o rfl ?_|refine fj r5 4 rfl w.heap.size sv hv tv p.most rfl P6.o ?_|refine Ac r5 118 rfl q20 1 pw it.url H6.o rfl HU6.o ?_)|(go_at_call 14;refine(HAC.o _ X6.o.bL).k λw7 U=>?_;have X7:=F<|X6.o.below U.o;have QR7:=F<|QR6.o.below U.o;clear U))
     go_roundw
     exact⟨k+1,v7,M0,by go_num,X7,F (by rw[HT2.o];exact QR7.o)⟩
     exact aa
   have HT2:=F (show(RL.take k).filter f++[it]=(RL.take (k+1)).filter f by rw[uh.o,D];simp);clear D
   go_upto_region 20 with(first|((with_reducible apply bS);first|refine vA rfl 114 rfl q20 48 (bC pw wv it) C6.o 0 (.bool true) ka.o rfl ?_|refine fj r5 4 rfl w.heap.size sv hv tv p.most rfl P6.o ?_|refine Ac r5 118 rfl q20 1 pw it.url H6.o rfl HU6.o ?_)|(go_at_call 14;refine(HAC.o _ X6.o.bL).k λw7 U=>?_;obtain⟨X7,QR7,I7⟩:=cZ (X6.o.below U.o) (QR6.o.below U.o) (I6.o.below U.o);clear U))
   have TB:=F (show((RL.take k).filter f).length+1<=1000000000 by
    have Y:=dO f (RL.take k);rw[aD]at Y;omega)
   have IF:=fo (wy+1<=w7.heap.size) X7.o.lt;clear C6 HU6 P6 X6 QR6 I6
   go_wp2_with((with_reducible apply bS);first|refine yw rfl 125 rfl wy 45 (bD v7 d) X7.o.cb 0 v7 rfl rfl ?_|(refine US rfl 20 rfl wr q20 pw wv it H6.o I7.o rfl ?_;refine qE rfl 127 rfl pw wv it H6.o rfl ?_;refine b7D rfl 126 128 rfl Eb Eb.heap.size (wy+1) rfl QR7.o QP.o rfl TB.o IF.o ?_;intro v10 xr b6K b10;have b6A:=F b6K;have X10:=F<|X7.o.base b10 (bV _) (by have:=HQ7.o;omega);clear b6K b10)|(refine AA rfl 130 129 rfl Eb wy X10.o v10 b6A.o.one' rfl rfl ?_;intro c9r i11 t11;have X11:=F i11;have b7S:=F<|b6A.o.tn t11 (bV _);clear i11 t11))
   go_roundw
   exact⟨k+1,v10,M0,by go_num,X11,F (by rw[<-HT2.o];exact b7S.o)⟩
   exact aa
 obtain rfl:k=N:=M0;have hTL:(RL.take k).filter f=RI:=by rw[HRI.o,show RL.take k=RL by rw[HN.o];exact di]
 rw[hTL]at QR;obtain⟨aw,cw,hv7⟩:=QR.o.len;obtain⟨N2,EQ⟩:=V (RI.length);rw[<-EQ]at hv7;subst hv7;obtain⟨mh,CX,HXI⟩:=cZ EQ OX.o.cb (QR.o.items OX.o.bL OX.o.bL.size);obtain⟨mo,Yx⟩:=ey (p.most);have f3:wr.cell? ⟨w.heap.size,3,none⟩=some (.int .i64 mo):=by rw[Yx.o];exact KR.o.c.aE rfl
 have f4:wr.cell? ⟨wy,0,none⟩=some (.slice aw N2 cw):=CX.o.aE rfl;have LP3:=F<|j2 _ _ f3;have LP4:=F<|j2 _ _ f4;clear hTL EQ KW C17 XI HPK OX QR HIU HN hNb
 go_upto_region 21 with((with_reducible apply bS);refine yw rfl 78 rfl g17 45 (bD (.slice ar k cr) d) D2.o 0 (.slice ar k cr) rfl rfl ?_)
 clear D2;by_cases hk3:vk=3
 ·subst hk3
  obtain⟨hne,hml⟩:=b8Y.o rfl;have HSL:=F hml;have hN0:0<N2:=by rw[mh.o];exact eo.mpr hne
  have Bw:=F<|λP (U:r7 wr P) ev hs=>b8Z.o rfl _ P (KR.o.below U) ev hs;clear hne hml b8Y b8T HDV b8Z MZ
  go_upto_region 24 with((with_reducible apply bS);refine tY r5 131 rfl g16 0 41 _ (PZ.o _ KR.o) _ vc0 rfl ?_)
  refine wp_region_held_drew (S:=λW=>r7 wr W) Rz (by first|exact hHeld|exact bg _|exact bG (bg _)|exact J.o) (λhHeld=>?_);refine ek 0 ?_;refine ek 1 ?_;refine ek 2 ?_;refine e_l 3 rfl (λ_ hS=>bK 43 192 rfl wy 0 (.slice aw N2 cw) _ underlying43 rfl rfl ((hS.cell (p:=⟨wy,0,none⟩) LP4.o).trans f4)) ?_
  refine ek 4 ?_;refine ek 5 ?_;refine ek 6 ?_;refine ek 7 ?_;refine ek 8 ?_;refine e_l 9 rfl (λ_ hS=>q8 11 rfl g11 A u H8.o rfl (KR.o.y.keep hS)) ?_
  refine ek 10 ?_;refine e_l 11 rfl (λ_ hS=>bK 9 200 rfl g16 2 (S vo) _ underlying9 rfl rfl (((PZ.o _ KR.o).keep hS).aE vc2)) ?_
  refine e_l 14 rfl (λ_ hS=>je 45 18 rfl wy (bD (.slice aw N2 cw) d) _ underlying45 rfl mS rfl (CX.o.keep hS)) ?_
  refine rn 12 Rz rfl r5 (λK hK=>?_);refine a1W 201 rfl vo rfl HSL.o ?_;intro ev w1x hs1 U;have J:=F<|dw hHeld U;have SE1:=F hs1;clear hs1 U;refine hK.out _ _ J.o (λhHeld=>?_);clear hK K
  try simp only[Act.put,fH,fI,fJ]
  refine rn 13 Rz rfl r5 (λK hK=>?_)
  go_simp
  refine(Bw.o _ hHeld ev SE1.o).m ?_;rintro e w2x⟨v4,rfl,ir,U⟩;have J:=F<|dw hHeld U;have Kf:=F<|HIR.o _ _ _ ir;clear ir U;refine hK.out _ _ J.o (λhHeld=>?_);clear hK K;refine rn 15 Rz rfl r5 (λK hK=>?_)
  go_simp
  refine(MY.o _ _ _ Kf.o ((HXI.o.below hHeld).more hHeld.size)).k λw3x U=>?_;have J:=F<|dw hHeld U.o;clear U;refine hK.out _ _ J.o (λhHeld=>?_);clear hK K
  try simp only[Act.put,fH,fI,fJ]
  refine ek 16 ?_;refine ek 17 ?_;refine wpAnyH_done Rz ?_ _;go_wp2_with fail;go_ret;exact⟨rfl,dw KR.o.b J.o⟩
 have qk3:(vk != 3)=true:=by simpa using hk3
 obtain⟨y,hy,hy2,hl3,hl4⟩:=b8T.o hk3;obtain⟨rfl,rfl⟩:=HDV.o y hy;obtain⟨M,hM,ob,Vc⟩:=ac ((kK g RI d).length) (E (kK g RI d));have b4Q:ob.size=M:=by rw[Vc,aF,hM]
 have zG:=F<|λ(x:Z) P (U:r7 wr P)=>(show Items wr.heap.size wr x RI->bF prog 15 #[.int .i64 g,.agg (bD x d)] P (.string ob)from λX=>by rw[Vc];exact MZ.o x P ((X.below U).more U.size) (KR.o.n.below U));have MZ:=F<|λP (U:r7 wr P)=>zG.o _ P U HXI.o;have hln:=mh.o;have UK:=fo (N2=0 ↔ RI=[]) ⟨λh=>az M0,λh=>by rw[hln,h];rfl⟩;rw[<-hM]at hl3;obtain⟨HL3,HL4,HA⟩:=cZ hl3 hl4 (PZ.o _ KR.o);clear hy hM Vc hln b8Y b8Z b8T HDV hl3 hl4 zG
 go_upto_region 22 with((with_reducible apply bS);refine tY r5 131 rfl g16 0 41 _ HA.o _ vc0 rfl ?_)
 go_cut [23]from 134 to 153 (λcv wx=>∃lg:Bool,cv=.bool lg/\Hid (¬N2=0->lg=true)/\Hid (r7 wr wx))
 case first =>
  by_cases hm:mo<(L:Int)
  ·clear MZ
   go_quiet (fail)
   go_wp2_with fail
   go_meet
   exact⟨true,rfl,F (λ_=>rfl),F (by first|exact bG (bg _)|exact nO (bg _)|exact bg _)⟩
  have qm:decide (mo<(L:Int))=false:=gh hm;by_cases R:N2=0
  ·subst R
   clear MZ
   go_quiet (fail)
   go_wp2_with fail
   go_meet
   exact⟨false,rfl,F (λh=>by simp at h),F (by first|exact bG (bg _)|exact nO (bg _)|exact bg _)⟩
  have hn1:0<N2:=b3A R
  have HLG:=fo (¬N2=0->decide (mo<(M:Int))=true) (λ_=>by
   rcases HL3.o with h|h|h
   ·exact absurd (UK.o.mpr h) R
   ·exact absurd (by rw[Yx.o];have:=HL.o;omega) hm
   rw[Yx.o];exact gr h.2)
  refine wp_region_held_drew (S:=λW=>r7 wr W) Rz (by first|exact hHeld|exact bg _|exact bG (bg _)|exact J.o) (λhHeld=>?_);refine ek 0 ?_;refine ek 1 ?_;refine ek 2 ?_;refine e_l 3 rfl (λ_ hS=>bK 3 136 rfl w.heap.size 3 (.int .i64 mo) _ underlying3 rfl rfl ((hS.cell (p:=⟨w.heap.size,3,none⟩) LP3.o).trans f3)) ?_
  refine ek 4 ?_;refine ek 5 ?_;refine ek 6 ?_;refine e_l 7 rfl (λ_ hS=>bK 43 140 rfl wy 0 (.slice aw N2 cw) _ underlying43 rfl rfl ((hS.cell (p:=⟨wy,0,none⟩) LP4.o).trans f4)) ?_
  refine ek 8 ?_;refine ek 9 ?_;refine ek 10 ?_;refine ek 11 ?_;refine e_l 12 rfl (λ_ hS=>je 45 18 rfl wy (bD (.slice aw N2 cw) d) _ underlying45 rfl mS rfl (CX.o.keep hS)) ?_
  refine ek 15 ?_;refine e_l 16 rfl (λ_ hS=>bK 3 149 rfl w.heap.size 3 (.int .i64 mo) _ underlying3 rfl rfl ((hS.cell (p:=⟨w.heap.size,3,none⟩) LP3.o).trans f3)) ?_
  refine rn 13 Rz rfl r5 (λK hK=>?_)
  go_simp
  refine(MZ.o _ hHeld).k λwb U=>?_;have J:=F<|dw hHeld U.o;clear U;refine hK.out _ _ J.o (λhHeld=>?_);clear hK K
  try simp only[Act.put,fH,fI,fJ]
  refine ek 14 ?_;refine ek 17 ?_;refine ek 18 ?_;refine ek 19 ?_;refine ek 20 ?_;refine wpAnyH_done Rz ?_ _;go_wp2_with fail
  go_meet
  exact⟨decide (mo<(M:Int)),by first|rfl|simp,HLG,J⟩
 case rest =>
  obtain⟨lg,rfl,HG,BG⟩:=hcut;generalize wc=wq at BG⊢;clear MZ f3 LP3;have f5:=(BG.o.cell (p:=⟨wy,0,none⟩) LP4.o).trans f4;have AQ:=F<|HA.o.keep BG.o;have g0:wq.cell? ⟨g16,0,none⟩=some (.int .i64 2):=AQ.o.aE vc0;have g1:wq.cell? ⟨g16,1,none⟩=some (.int .i64 vy):=AQ.o.aE vc1;have KF:=F<|KR.o.below BG.o;have q2:(vy != 2)=true:=by simpa using hy2
  clear f4 HA;by_cases R:N2=0
  ·subst R
   rcases(show vy=4\/vy=3\/(¬vy=4/\¬vy=3) by omega)with rfl|rfl|⟨y4,y3⟩;rotate_left 2
   ·have p4:(vy != 4)=true:=by simpa using y4
    have p3:(vy != 3)=true:=by simpa using y3
    go_wp2_with fail;go_ret;exact⟨rfl,KF.o.b⟩
   all_goals
    go_wp2_with fail;go_ret;exact⟨rfl,KF.o.b⟩
  have hN0:((N2:Int)==0)=false:=by simpa using R
  obtain rfl:=HG.o R;obtain⟨y4,y3⟩:=HL4.o.resolve_right (λh=>R (UK.o.mpr h));have p4:(vy != 4)=true:=by simpa using y4
  have p3:(vy != 3)=true:=by simpa using y3
  go_wp2_with fail;go_ret;exact⟨rfl,KF.o.b⟩
