/- The walk of FilterKeeps. -/
import Derived.Test.YthfkicfjlljjiaaGreatDoorGPlcB
import Derived.Test.YthfkicfjlljjiaaGreatDoorGFilW
set_option maxHeartbeats 40000000
namespace Go.Proofs.YthfkicfjlljjiaaGreatDoor
open Go.Proofs.Tryz
open Go.RowKit
set_option maxRecDepth 10000
theorem b7h{l:List eu}{d:O}(h:b6b l d)(ok:∀ i∈l,gG i.url):ILk l :=
 ⟨λi hi=>⟨UD (h.i i hi).url (ok i hi),am (a0P _) (am (Wg (h.i i hi).url (ok i hi)) P8),by have:=(h.i i hi).n;omega⟩,by have:=h.n;omega⟩
theorem b54{l:List eu}(h:ILk l)(f:eu->Bool):ILk (l.filter f) :=
 ⟨λi hi=>h.u i (a3J.mp hi).1,am (dO _ _) h.n⟩
theorem filterKeeps_walk(p:qh)(s r t:Z)(kind:Int)(v:Z)(l:List eu)(d:O)(w:H)(hp:BB w s r t p)(_:(Lit.int .i64 kind).wf=true)(hI:Items w.heap.size w v l)(hE:Env w)(hN:NE w) :
  bF prog 4 #[.agg (aY s r t p.most),.int .i64 kind,.agg (bD v d)] w (.bool true):=by
 have YF:=F<|λW (U:r7 w W)=>DM W (hE.below U) (hN.below U);have HF1:=F<|λW (U:r7 w W)=>KV p s r t W (hp.below U);have Hs:=F<|λW (U:r7 w W)=>(show Calls prog 17 #[.agg (bD v d)] W λe w'=>zH (b6b l d) e/\r7 W w' from b6i l v d W ((hI.below U).more U.size));have HP:=F hp;have HI:=F hI;have HE:=F hE;have HN:=F hN;obtain⟨W,hw,hsz,c1,c2,G⟩:=qd w 24 50 (aY s r t p.most) (bD v d);have C1:=F c1;have C2:=F c2;have B2:=F G;have HW:=F hw;clear c1 c2 G hw hsz hp hI hE hN;go_enter func4,ntmps4
 go_upto_region 1 with fail
 rw[HW.o]
 go_upto_region 4 with(first|(go_at_call 16;refine(YF.o _ B2.o).m ?_;rintro e w3 ⟨rfl,U⟩;have B3:=F<|dw B2.o U;have D1:=F<|C1.o.keep U;have D2:=F<|C2.o.keep U;clear U)|((with_reducible apply bS);first|refine fj r5 (.tmp 3) rfl w.heap.size s r t p.most rfl D1.o ?_|refine vR r5 50 (.tmp 5) rfl (w.heap.size+1) (bD v d) _ underlying50 rfl mS rfl E2.o ?_)|(go_at_call 6;refine(HF1.o _ B3.o).m ?_;rintro e w4 ⟨⟨b1,rfl,hf1⟩,U⟩;have F1:=F hf1;have B4:=F<|dw B3.o U;have E1:=F<|D1.o.keep U;have E2:=F<|D2.o.keep U;clear U hf1)|(go_at_call 17;refine(Hs.o _ B4.o).m ?_;rintro e w5 ⟨⟨G,rfl,hf2⟩,U⟩;have F2:=F hf2;have B5:=F<|dw B4.o U;have G1:=F<|E1.o.keep U;have G2:=F<|E2.o.keep U;clear U hf2))
 clear C1 C2 B2 HW YF HF1 Hs B3 D1 D2 B4 E1 E2;cases b1 with
 |false =>
  go_wp2_with fail;go_ret;exact⟨rfl,B5.o⟩
 |true =>
  cases G with
  |false =>
   go_wp2_with fail;go_ret;exact⟨rfl,B5.o⟩
  |true =>
   have PF:=F1.o rfl;have RF:=F2.o rfl;have hU:=b7h RF (CY HI.o);have q:=b54 hU (jO p kind);have HKP:=F<|λW (U:r7 w W)=>LB p kind l d v s r t W ((HI.o.below U).more U.size) hU ((HP.o.below U).at PF) (HE.o.below U) (HN.o.below U);have HRK:=F<|λW (U:r7 w W)=>b56 p kind l d v s r t W ((HI.o.below U).more U.size) hU ((HP.o.below U).at PF)
   have HKK:=F<|λW (U:r7 w W) (x:Z) (hi:Items W.heap.size W x (l.filter (jO p kind)))=>(show Calls prog 18 #[.agg (aY s r t p.most),.int .i64 kind,.agg (bD x d)] W (jz W ⟨l.filter (jO p kind),d⟩)from by
    have h:=LB p kind (l.filter (jO p kind)) d x s r t W hi q ((HP.o.below U).at PF) (HE.o.below U) (HN.o.below U);rw[b3z]at h;simp only[b65]at h;exact h)
   obtain⟨L,hL⟩:=V (l.filter (jO p kind));rw[<-hL]at HKP HRK HKK q;have MY:=F<|λ(x y:Z) (V':H) (Y:Items V'.heap.size V' x L) (I:Items V'.heap.size V' y L)=>b6s ⟨L,d⟩ x y V' Y I (am q.n P8);have HIR:=F<|λ(V':H) (base:Nat) (x:Z) (c:fa V' base x L)=>c.iok q;have HPL:=F (λi (hi:i∈L)=>show i.url.path.length<=1024000000/\i.words.length<=1024000000 from⟨by have:=(q.u i hi).1.E.1;omega,(q.u i hi).2.2⟩);obtain⟨N,XF⟩:=V (L.length);have hNb:N<=900000000:=by rw[XF];exact q.n
   have xm:=F XF;clear PF RF hU q hL XF F1 F2 HP HI HE HN
   go_upto_region 7 with(first|((with_reducible apply bS);first|refine fj r5 (.tmp 3) rfl w.heap.size s r t p.most rfl G1.o ?_|refine vR r5 50 (.tmp 5) rfl (w.heap.size+1) (bD v d) _ underlying50 rfl mS rfl G2.o ?_|(refine aM rfl 50 rfl _ _ (pC _) ?_;refine JH rfl (.tmp 10) (.tmp 32) rfl v6 d Xd.o.one' rfl rfl rfl ?_;intro w7 i7;have I7:=F i7;clear i7))|(go_at_call 18;refine(HKP.o _ B5.o).m ?_;rintro e w6 ⟨v6,rfl,ir,U⟩;have Xd:=F ir;have B6:=F U;clear ir U))
   obtain⟨q10,hq⟩:=V (w6.heap.size);have HQ:=F hq;rw[<-hq]at I7 ⊢;clear hq;have B7:=F<|B6.o.trans (I7.o.bL.m B6.o.size);have P7:=F<|G1.o.keep B7.o;have R7:=F<|G2.o.keep B7.o
   go_upto_region 8 with(first|((with_reducible apply bS);first|refine fj r5 (.tmp 3) rfl w.heap.size s r t p.most rfl P7.o ?_|refine vR r5 50 (.tmp 5) rfl (w.heap.size+1) (bD v d) _ underlying50 rfl mS rfl R7.o ?_|(refine aM rfl 50 rfl _ _ (pC _) ?_;refine JH rfl (.tmp 11) (.tmp 36) rfl v8 d O8.o rfl rfl rfl ?_;intro w9 i9;have I9:=F i9;clear i9))|(go_at_call 19;refine(HRK.o _ (dw B5.o B7.o)).m ?_;rintro e w8 ⟨v8,rfl,o8,i8,U⟩;have O8:=F o8;have I8:=F i8;have B8:=F U;clear o8 i8 U))
   have K9:=F<|(I7.o.cb.keep B8.o).keep I9.o.bL;have M9:=F<|dw B8.o I9.o.bL;have X6:=F<|HIR.o _ _ _ ((Xd.o.below I7.o.bL).below M9.o);have X8:=F<|(I8.o.below I9.o.bL).more I9.o.bL.size;obtain⟨q11,hq⟩:=V (w8.heap.size);rw[<-hq]at I9 ⊢;clear hq
   go_upto_region 9 with(first|((with_reducible apply bS);first|refine vR r5 50 (.tmp 10) rfl q10 (bD v6 d) _ underlying50 rfl mS rfl K9.o ?_|refine vR r5 50 (.tmp 11) rfl q11 (bD v8 d) _ underlying50 rfl mS rfl I9.o.cb ?_)|(go_at_call 20;refine(MY.o v6 v8 _ X6.o X8.o).m ?_;rintro e xr ⟨rfl,U⟩;have B10:=F U;clear U))
   have M10:=F<|dw M9.o B10.o
   have hz:∃ a6 f gr,v6=.slice a6 N f/\(0<N->a6=some ⟨gr,0,none⟩)/\ZW w5 q10 gr N (bD v6 d) xr:=by
    have hbb:r7 w5 xr:=B7.o.trans (M10.o.m B7.o.size);have hc:CB xr q10 50 (bD v6 d):=K9.o.keep B10.o;by_cases h0:L=[]
    ·obtain⟨a,c,e⟩:=Xd.o.len
     have hN0:N=0:=by rw[xm.o,h0];rfl
     exact⟨a,c,0,by rw[e,<-xm.o],λh=>M0,hbb,hc,λk hk=>M0⟩
    obtain⟨g,c,e,_,hg,hz⟩:=b4k.of Xd.o h0 HPL.o;rw[<-xm.o]at e hz;rw[<-HQ.o]at hz;exact⟨_,c,g,e,λ_=>rfl,hbb,hc,(hz.below I7.o.bL M0).below M10.o (by have:=I7.o.bL.size;omega)⟩
   obtain⟨a6,f,gr,rfl,ha6,hzw⟩:=hz;have HA6:=F ha6;have Z10:=F hzw;clear ha6 hzw P7 R7 K9 M9 X6 X8 O8 I8 I9 B8 B10 M10 I7 Xd B6 B7 HQ
   go_upto_region 10 with fail
   go_loopw [13,14,15] (λiv _ _ wr=>∃ i:Nat,i<=N/\iv=.int .i64 i/\Hid (ZW w5 q10 gr N (bD (.slice a6 N f) d) wr)) (λiv _ _ _=>N-(intOf iv).toNat)
   exact⟨0,aL _,rfl,Z10⟩
   clear Z10;obtain⟨i,hi,rfl,Q⟩:=hrel;by_cases hlt:i<N
   ·obtain rfl:=HA6.o (by omega)
    obtain⟨A,wv,mp,mw,Y,I,h3,h4,h5,h6⟩:=Q.o.z i hlt;obtain⟨ap,cp,rfl⟩:=h5.val;obtain⟨aw,cw,rfl⟩:=h6.val;have ZP:=F h5;have ZQ:=F h6;have R:=F Y;have Ei:=F I;clear Y I h5 h6
    go_upto_region 13 with(first|((with_reducible apply bS);refine yw rfl (.tmp 41) rfl q10 50 (bD (.slice (some ⟨gr,0,none⟩) N f) d) Q.o.c 0 (.slice (some ⟨gr,0,none⟩) N f) rfl rfl ?_))
    go_loopw [14] (λmv P=>∃ m:Nat,m<=mw/\mv=.int .i64 m/\Hid (ZW w5 q10 gr N (bD (.slice (some ⟨gr,0,none⟩) N f) d) P)/\Hid (P.cell? ⟨gr,i*25+19,none⟩=some (.slice ap mp cp))/\Hid (P.cell? ⟨gr,i*25+24,none⟩=some (.slice aw mw cw))/\Hid (a3s P w5.heap.size q10 gr (.slice ap mp cp) mp)/\Hid (a3s P w5.heap.size q10 gr (.slice aw mw cw) mw)) (λmv _=>mw-(intOf mv).toNat)
    exact⟨0,aL _,rfl,Q,R,Ei,ZP,ZQ⟩
    clear Q R Ei ZP ZQ;obtain⟨m,hm,rfl,Z2,R,Ei,ZP,ZQ⟩:=hrel;have f2:=Ei.o;by_cases hmw:m<mw
    ·obtain⟨b,cs,T,rfl,D,hg,hh,hj⟩:=ZQ.o.at hmw
     have HH:=F hh;have HJ:=F hj;have B:=F D;have HG:=F hg;clear hh hj D hg
     go_wp2_with (first|((with_reducible apply bS);first|refine yw rfl (.tmp 48) rfl q10 50 (bD (.slice (some ⟨gr,0,none⟩) N f) d) Z2.o.c 0 (.slice (some ⟨gr,0,none⟩) N f) rfl rfl ?_|refine yw rfl (.tmp 58) rfl q10 50 (bD (.slice (some ⟨gr,0,none⟩) N f) d) Z2.o.c 0 (.slice (some ⟨gr,0,none⟩) N f) rfl rfl ?_|(refine c0j rfl (.tmp 65) (.const (.string ⟨#[122,122]⟩)) rfl b m cs T HH.o HJ.o ⟨#[122,122]⟩ (by simp[Act.eval]) rfl ?_;intro w' M;have j:=F M;clear M)))
     go_roundw
     exact⟨m+1,M0,by go_num,F (by rw[j.o];exact Z2.o.set HH.o B.o HG.o),F (by rw[j.o,World.cell?_setCell_far _ ⟨b,m,none⟩ _ _ B.o.1];exact R.o),F (by rw[j.o,World.cell?_setCell_far _ ⟨b,m,none⟩ _ _ B.o.1];exact Ei.o),F (by rw[j.o];exact ZP.o.set b m _ HH.o),F (by rw[j.o];exact ZQ.o.set b m _ HH.o)⟩
     simp[intOf];omega
    obtain rfl:m=mw:=M0
    go_upto_region 17 with(first|((with_reducible apply bS);refine yw rfl (.tmp 48) rfl q10 50 (bD (.slice (some ⟨gr,0,none⟩) N f) d) Z2.o.c 0 (.slice (some ⟨gr,0,none⟩) N f) rfl rfl ?_))
    clear f2 Ei ZQ
    go_loopw [15] (λmv wr3=>∃ m:Nat,m<=mp/\mv=.int .i64 m/\Hid (ZW w5 q10 gr N (bD (.slice (some ⟨gr,0,none⟩) N f) d) wr3)/\Hid (wr3.cell? ⟨gr,i*25+19,none⟩=some (.slice ap mp cp))/\Hid (a3s wr3 w5.heap.size q10 gr (.slice ap mp cp) mp)) (λmv _=>mp-(intOf mv).toNat)
    exact⟨0,aL _,rfl,Z2,R,ZP⟩
    clear Z2 R ZP;obtain⟨n,hn,rfl,Z3,R,ZP⟩:=hrel;have f1:=R.o;have f2:=(show World.cell? _ ⟨gr,i*25+1+18,none⟩=some (Value.slice ap mp cp)from R.o);by_cases hnp:n<mp
    ·obtain⟨b,cs,T,rfl,D,hg,hh,hj⟩:=ZP.o.at hnp
     have HH:=F hh;have HJ:=F hj;have B:=F D;have HG:=F hg;clear hh hj D hg
     go_wp2_with (first|((with_reducible apply bS);first|refine yw rfl (.tmp 67) rfl q10 50 (bD (.slice (some ⟨gr,0,none⟩) N f) d) Z3.o.c 0 (.slice (some ⟨gr,0,none⟩) N f) rfl rfl ?_|refine yw rfl (.tmp 78) rfl q10 50 (bD (.slice (some ⟨gr,0,none⟩) N f) d) Z3.o.c 0 (.slice (some ⟨gr,0,none⟩) N f) rfl rfl ?_|(refine c0j rfl (.tmp 86) (.const (.string ⟨#[122,122]⟩)) rfl b n cs T HH.o HJ.o ⟨#[122,122]⟩ (by simp[Act.eval]) rfl ?_;intro w' M;have j:=F M;clear M)))
     go_roundw
     exact⟨n+1,M0,by go_num,F (by rw[j.o];exact Z3.o.set HH.o B.o HG.o),F (by rw[j.o,World.cell?_setCell_far _ ⟨b,n,none⟩ _ _ B.o.1];exact R.o),F (by rw[j.o];exact ZP.o.set b n _ HH.o)⟩
     simp[intOf];omega
    obtain rfl:n=mp:=M0
    go_wp2_with (first|((with_reducible apply bS);refine yw rfl (.tmp 67) rfl q10 50 (bD (.slice (some ⟨gr,0,none⟩) N f) d) Z3.o.c 0 (.slice (some ⟨gr,0,none⟩) N f) rfl rfl ?_))
    go_roundw
    exact⟨i+1,M0,by go_num,Z3⟩
    simp[intOf];omega
   obtain rfl:i=N:=M0;have P11:=F<|G1.o.keep Q.o.b;have R11:=F<|G2.o.keep Q.o.b;have B11:=F<|dw B5.o Q.o.b;obtain⟨Eb,b90⟩:=V (wr);rw[<-b90]at P11 R11 B11 Q ⊢;clear b90
   go_upto_region 21 with(first|((with_reducible apply bS);first|refine yw rfl (.tmp 41) rfl q10 50 (bD (.slice a6 i f) d) Q.o.c 0 (.slice a6 i f) rfl rfl ?_|refine fj r5 (.tmp 3) rfl w.heap.size s r t p.most rfl P11.o ?_|refine vR r5 50 (.tmp 5) rfl (w.heap.size+1) (bD v d) _ underlying50 rfl mS rfl R11.o ?_|(refine aM rfl 50 rfl _ _ (pC _) ?_;refine JH rfl (.tmp 16) (.tmp 90) rfl v12 d b7O.o.one' rfl rfl rfl ?_;intro w13 i13;have C:=F i13;clear i13))|(go_at_call 18;refine(HKP.o _ B11.o).m ?_;rintro e w12 ⟨v12,rfl,ir,U⟩;have b7O:=F ir;have B12:=F U;clear ir U))
   obtain⟨q16,hq⟩:=V (w12.heap.size);have b7s:=F C.o.bL;have I12:=F<|HIR.o _ _ _ (b7O.o.below C.o.bL);rw[<-hq]at C ⊢;have K13:=F C.o.cb;have M13:=F<|dw B12.o b7s.o;have P13:=F<|P11.o.keep M13.o;have R13:=F<|R11.o.keep M13.o;have B13:=F<|dw B11.o M13.o;have I13:=F<|λV' (U:r7 w13 V')=>(I12.o.below U).more U.size;clear hq C b7s I12 b7O M13 P11 R11 B11 B12 Q HKP HA6 G1 G2 B5;refine wp_region_held_drew (S:=λW=>r7 w13 W) Rz (by first|exact hHeld|exact bg _|exact bG (bg _)|exact J.o) (λhHeld=>?_);refine ek 0 ?_;refine ek 1 ?_;refine ek 2 ?_;refine ek 3 ?_;refine ek 4 ?_;refine tq 5 rfl ?_ (λwS hSw=>?_) ?_;rotate_left
   ·(try dsimp only at hSw)
    refine je 50 (.tmp 16) ?_ q16 (bD v12 d) _ underlying50 rfl mS ?_ ?_
    ·rfl
    ·rfl
    exact K13.o.keep hSw
   try simp only[Act.put,fH,fI,fJ]
   refine tq 6 rfl ?_ (λwS hSw=>?_) ?_;rotate_left
   ·(try dsimp only at hSw)
    refine je 24 (.tmp 3) ?_ w.heap.size (aY s r t p.most) _ underlying24 rfl wn ?_ ?_
    ·rfl
    ·rfl
    exact P13.o.keep hSw
   try simp only[Act.put,fH,fI,fJ]
   refine ek 7 ?_;refine tq 8 rfl ?_ (λwS hSw=>?_) ?_;rotate_left
   ·(try dsimp only at hSw)
    refine je 50 (.tmp 5) ?_ (w.heap.size+1) (bD v d) _ underlying50 rfl mS ?_ ?_
    ·rfl
    ·rfl
    exact R13.o.keep hSw
   try simp only[Act.put,fH,fI,fJ]
   refine rn 9 Rz rfl r5 (λK hK=>?_)
   go_simp
   refine(HRK.o _ (dw B13.o hHeld)).m ?_;rintro e wa ⟨va,rfl,oa,ia,U⟩;have IA:=F ia;have J:=F<|dw hHeld U;clear ia oa U;refine hK.out _ _ ?_ (λhHeld=>?_)
   ·first|exact hHeld|exact bg _|exact bG (bg _)|exact J.o
   clear hK K;refine rn 10 Rz rfl r5 (λK hK=>?_)
   go_simp
   refine(MY.o v12 va _ (I13.o _ hHeld) IA.o).m ?_;rintro e wb ⟨rfl,U⟩;have J:=F<|dw hHeld U;clear U;refine hK.out _ _ ?_ (λhHeld=>?_)
   ·first|exact hHeld|exact bg _|exact bG (bg _)|exact J.o
   clear hK K
   try simp only[Act.put,fH,fI,fJ]
   refine ek 11 ?_;refine ek 12 ?_;refine tq 13 rfl ?_ (λwS hSw=>?_) ?_;rotate_left
   ·(try dsimp only at hSw)
    refine je 24 (.tmp 3) ?_ w.heap.size (aY s r t p.most) _ underlying24 rfl wn ?_ ?_
    ·rfl
    ·rfl
    exact P13.o.keep hSw
   try simp only[Act.put,fH,fI,fJ]
   refine ek 14 ?_;refine tq 15 rfl ?_ (λwS hSw=>?_) ?_;rotate_left
   ·(try dsimp only at hSw)
    refine je 50 (.tmp 16) ?_ q16 (bD v12 d) _ underlying50 rfl mS ?_ ?_
    ·rfl
    ·rfl
    exact K13.o.keep hSw
   try simp only[Act.put,fH,fI,fJ]
   refine tq 17 rfl ?_ (λwS hSw=>?_) ?_;rotate_left
   ·(try dsimp only at hSw)
    refine je 50 (.tmp 16) ?_ q16 (bD v12 d) _ underlying50 rfl mS ?_ ?_
    ·rfl
    ·rfl
    exact K13.o.keep hSw
   try simp only[Act.put,fH,fI,fJ]
   refine rn 16 Rz rfl r5 (λK hK=>?_)
   go_simp
   refine(HKK.o _ (dw B13.o hHeld) v12 (I13.o _ hHeld)).m ?_;rintro e wc ⟨vc,rfl,ic,U⟩;have IC:=F<|HIR.o _ _ _ ic;have J:=F<|dw hHeld U;clear ic U;refine hK.out _ _ ?_ (λhHeld=>?_)
   ·first|exact hHeld|exact bg _|exact bG (bg _)|exact J.o
   clear hK K;refine rn 18 Rz rfl r5 (λK hK=>?_)
   go_simp
   refine(MY.o vc v12 _ IC.o (I13.o _ hHeld)).m ?_;rintro e wd ⟨rfl,U⟩;have J:=F<|dw hHeld U;clear U;refine hK.out _ _ ?_ (λhHeld=>?_)
   ·first|exact hHeld|exact bg _|exact bG (bg _)|exact J.o
   clear hK K
   try simp only[Act.put,fH,fI,fJ]
   refine ek 19 ?_;refine ek 20 ?_;refine wpAnyH_done Rz ?_ _;go_wp2_with fail;go_ret;exact⟨rfl,dw B13.o J.o⟩
