/- The walk of TopImages, for texts up to 1048576 bytes. -/
import Derived.Test.YtajblocgpkpmeaaGreatDoorSGDenB
set_option maxHeartbeats 40000000
namespace Go.Proofs.YtajblocgpkpmeaaGreatDoor
open Tryz
open Go.RowKit
set_option maxRecDepth 10000
theorem b8P:∃ i,prog.info? 60=some i/\i.zero=some (.float .f64 0)/\i.size=1/\i.bytes=8:=by
 have h:(prog.info? 60).map (λi=>(i.zero,i.size,i.bytes))=some (some (.float .f64 0),1,8):=Rz;obtain⟨i,hi,he⟩:=cY.1 h;simp only[a6u]at he;exact⟨i,hi,he.1,he.2.1,he.2.2⟩
theorem b8c{w:H}{base n:Nat}{v:Z}{l:List Nat}(h:w.ownsRow base 60 1 v n (l.map b6Y))(a:n=l.length):Sl w.heap.size w v (l.map b6Y):=by
 subst a;have:=Sl.g9 (w:=w) (base:=base) (e:=60) (v:=v) (xs:=l.map b6Y) (n:=(l.map b6Y).length) (by rw[ay];exact h);exact this
theorem topImages_walk(p:qh)(T R tv:Z)(t:ByteArray)(rv:Z)(raw:O)(zs zw:Nat)(w:H)(hp:BB w T R tv p)(_:t.size<=maxLen)(hr:Sl w.heap.size w rv (Lib.byteCells raw))(ub:t.size<=1048576)(hE:Env w)(hN:NE w) :
  bF prog 5 #[.agg (aY T R tv p.most),.string t,rv,b6Y zs,b6Y zw] w (.bool true):=by
 have YF:=F<|λW (U:r7 w W)=>a12 W (hE.below U) (hN.below U);have HF1:=F<|λW (U:r7 w W)=>KV p T R tv W (hp.below U);obtain⟨u,q,h8,hq,hba⟩:=a11 t w ub hE;have H8:=F h8;have HQ:=F hq;have xt:=F hba;obtain⟨L,hL⟩:=V (raw.length)
 obtain⟨av,cv,rfl⟩:∃ a c,rv=.slice a L c:=by
  rcases AU hr with⟨rfl,a,c,rfl⟩|⟨b,o,c,_,_,rfl,_⟩
  ·exact⟨a,c,by rw[hL];rfl⟩
  exact⟨_,c,by rw[hL]⟩
 have HL:=F hL;have HP:=F hp;have HR:=F hr;have HE:=F hE;have HN:=F hN;obtain⟨W,hw,c1,G⟩:=a3E w 24 (aY T R tv p.most);have C1:=F c1;have B2:=F G;have HW:=F hw;clear c1 G hw hL hp hr hE hN h8 hq hba;go_enter func5,ntmps5
 go_upto_region 1 with fail
 rw[HW.o]
 go_upto_region 4 with(first|(go_at_call 7;refine(YF.o _ B2.o).m ?_;rintro e w3 ⟨rfl,U⟩;have B3:=F<|dw B2.o U;have D1:=F<|C1.o.keep U;clear U)|((with_reducible apply bS);first|refine fj r5 (.tmp 5) rfl w.heap.size T R tv p.most rfl D1.o ?_|(refine aM rfl 34 rfl _ _ (eD _) ?_;refine fL rfl (.tmp 13) (.tmp 33) rfl A u H8.o O5.o rfl rfl rfl ?_;intro w6 h3 U;have B6:=F<|dw B5.o U;have K:=F (show KT w w6 p T R tv w5.heap.size A u from⟨B6.o,HE.o.below B6.o,HN.o.below B6.o,G1.o.keep U,h3,(S5.o.below U).more U.size⟩);clear h3 U))|(go_at_call 8;refine(HF1.o _ B3.o).m ?_;rintro e w4 ⟨⟨b1,rfl,hf1⟩,U⟩;have F1:=F hf1;have B4:=F<|dw B3.o U;have E1:=F<|D1.o.keep U;clear U hf1)|(go_at_call 9;refine(xt.o _ B4.o).m ?_;rintro e w5 ⟨A,rfl,Y,hs,_,U⟩;have B5:=F<|dw B4.o U;have G1:=F<|E1.o.keep U;have S5:=F hs;have O5:=F Y;clear U hs Y))
 obtain⟨g13,hg⟩:=V (w5.heap.size);rw[<-hg]at K ⊢;clear hg C1 B2 HW YF HF1 xt B3 D1 B4 E1 B5 G1 S5 O5 B6 HE HN;cases b1 with
 |false =>
  go_wp2_with fail;go_ret;exact⟨rfl,K.o.b⟩
 |true =>
 cases q with
 |false =>
  go_wp2_with fail;go_ret;exact⟨rfl,K.o.b⟩
 |true =>
 by_cases h3:(300:Int)<L
 ·go_wp2_with fail
  go_ret;exact⟨rfl,K.o.b⟩
 obtain⟨U,ht⟩:=HQ.o rfl;have Q:raw.length<=300:=by have:=HL.o;omega
 have hub:zK u:=a2s (s:=ls t) M0 U;have hgu:=kG U;have hfl:Tj p 2 u raw:=b8e ht U Q;obtain⟨V',hV⟩:=V (dQ p u [105,109,103] [115,114,99,115,101,116] raw)
 have WV:=F<|λW (h:KT w W p T R tv g13 A u)=>(show bF prog 17 #[.agg (aY T R tv p.most),.agg (ai A u),.string ⟨#[105,109,103]⟩,.string ⟨#[115,114,99,115,101,116]⟩,.slice av L cv] W (.agg (vF V'))from by
  rw[hV];exact vr p u [105,109,103] [115,114,99,115,101,116] raw _ T R tv A W ((HP.o.below h.b).at (F1.o rfl)) hub h.s (am (AQ (oG (L:=300) ht M0 U) (qQ hgu) (ag _)) M0) ⟨P8,P8⟩ ((HR.o.below h.b).more h.b.size) (λ_=>by rw[KA];exact hfl) h.e h.n)
 obtain⟨B,hA⟩:=V (jF (jw raw));obtain⟨f,hf⟩:=V ((λc:dk=>jO p 2 (ep u c)));obtain⟨g,hg⟩:=V ((λc:dk=>({c with url:=dA (ep u c).url true}:dk)));obtain⟨P,hLL⟩:=V ((B.filter f).map g);have HVA:=F<|λW (h:KT w W p T R tv g13 A u)=>MM raw _ W ((HR.o.below h.b).more h.b.size) hfl.v.n hfl.v.z hfl.v.d h.e;have MY:=F<|λW (h:KT w W p T R tv g13 A u)=>(show Calls prog 23 #[.string (E (jw raw))] W (SpP B W)from by rw[hA];exact AV (jw raw) W (by have:=WC Q;omega) h.e);have hkp:V'.kind=3->a7g p u [105,109,103] [115,114,99,115,101,116] raw V':=λh=>by rw[hV]at h ⊢;exact a59 h
 have HVO:=F (show V'.kind=3->V'.o.length<=maxLen from λh=>by
  have:=(ns KA ht U Q (hkp h)).1;unfold maxLen;omega)
 have HVB:=F<|λ(hk:V'.kind=3) W (h:KT w W p T R tv g13 A u) (ev:Z) (hs:Sl W.heap.size W ev (Lib.byteCells V'.o))=>(show bF prog 24 #[ev] W (S (jw V'.o))from MM V'.o ev W hs (ns KA ht U Q (hkp hk)).1 (ns KA ht U Q (hkp hk)).2.1 (ns KA ht U Q (hkp hk)).2.2.1 h.e)
 have HSB:=F<|λ(hk:V'.kind=3) W (h:KT w W p T R tv g13 A u)=>(show Calls prog 23 #[.string (E (jw V'.o))] W (SpP P W)from by
  have e:=b8g (p:=p) (b:=u) (raw:=raw) hgu KA (by rw[hV]at hk;exact hk);rw[<-hV]at e;rw[hLL,hA,hf,hg,<-e];exact AV (jw V'.o) W (by have:=(ns KA ht U Q (hkp hk)).2.2.2;omega) h.e)
 have WQ:=F<|λ(c:dk) (hc:c∈B)=>(show c.url.length<=1048576/\zK (ep u c).url/\(dA (ep u c).url false).length<=1000000000/\(0<=c.w/\c.w<=9223372036854775807)from by
  rw[hA]at hc;have Y:=hfl.u (ep u c) (by rw[b81];exact dt.mpr ⟨c,hc,rfl⟩);obtain⟨d,hd,he⟩:=wO (jw raw).length (jw raw) c hc;have ew:c.w=d.w:=by have:=congrArg (λx:dk=>x.w) he;exact this
  exact⟨hfl.v.r.u c hc,Y.1,Y.2.1,by rw[ew];exact b9O hd⟩)
 have HFF:=F (λc:dk=>show f c=((ep u c).right&&uP p (ep u c).url&&ti (dA (ep u c).url true)) by rw[hf];rfl);have HGU:=F<|λc:dk=>(show(g c).url=dA (ep u c).url true/\p5 (g c) zs=p5 c zs/\(g c).w=c.w by rw[hg];exact⟨rfl,rfl,rfl⟩)
 have hAn:B.length<=1000000:=by
  rw[hA];have:=(oV (jw raw)).1;have:=WC Q;omega
 have xM:=F hLL;have HF9:=F<|F1.o rfl;have HUB:=F hub;obtain⟨vk,hvk⟩:=V (V'.kind);obtain⟨vy,hvy⟩:=V (V'.why);obtain⟨vo,hvo⟩:=V (V'.o);obtain⟨xa,hxa⟩:=V (E (jw raw));obtain⟨xb,hxb⟩:=V (E (jw vo));have HVC:=F (show vF V'=bH vk vy (E vo) by rw[hvk,hvy,hvo]);rw[HVC.o]at WV;rw[<-hvk,<-hvo]at HVO HVB HSB;rw[show S (jw raw)=.string xa by rw[hxa]]at HVA;rw[show S (jw vo)=.string xb by rw[hxb]]at HVB;rw[<-hxa]at MY;rw[<-hxb]at HSB;clear hV U ht Q F1 HQ hvk hvy hvo hkp hub hgu hfl hA hf hg hLL hxa hxb
 go_upto_region 7 with(first|((with_reducible apply bS);first|refine fj r5 (.tmp 5) rfl w.heap.size T R tv p.most rfl K.o.c ?_|refine cR r5 (.tmp 13) rfl g13 A u H8.o rfl K.o.y ?_|(refine aM rfl 44 rfl _ _ (tV _) ?_;refine newV rfl (.tmp 15) (.tmp 50) rfl vk vy (E vo) rfl rfl rfl ?_;intro w8 I U;have CV:=F I;have K8:=F<|K7.o.below U;clear U I))|(go_at_call 17;refine(WV.o _ K.o).m ?_;rintro e w7 ⟨rfl,U⟩;have K7:=F<|K.o.below U;clear U))
 obtain⟨g15,hg⟩:=V (w7.heap.size);rw[<-hg]at CV ⊢;clear hg K K7 WV HVC;by_cases hk3:vk=3;rotate_left
 ·have qk3:(vk != 3)=true:=by simpa using hk3
  go_wp2_with (first|((with_reducible apply bS);refine tY r5 (.tmp 51) rfl g15 0 44 _ CV.o _ vc0 rfl ?_))
  go_ret;exact⟨rfl,K8.o.b⟩
 subst hk3;have HSL:=F<|HVO.o rfl;have HV2:=F<|HVB.o rfl;have HS2:=F<|HSB.o rfl;clear HVO HVB HSB
 go_upto_region 10 with(first|((with_reducible apply bS);refine tY r5 (.tmp 51) rfl g15 0 44 _ CV.o _ vc0 rfl ?_)|(go_at_call 24;refine(HVA.o _ K8.o).m ?_;rintro e w9 ⟨rfl,U⟩;have K9:=F<|K8.o.below U;have CV9:=F<|CV.o.keep U;clear U)|(go_at_call 23;refine(MY.o _ K9.o).m ?_;rintro e xr ⟨va,rfl,hcr,U⟩;have rO:=F<|K9.o.below U;have c0Z:=F<|CV9.o.keep U;have CA:=F<|hcr.a3r (am hAn P8);clear U hcr))
 clear K8 K9 CV CV9 HVA MY
 go_upto_region 11 with(first|((with_reducible apply bS);first|refine kA rfl (.tmp 58) rfl g15 44 (bH 3 vy (E vo)) c0Z.o 2 (S vo) vc2 rfl ?_|(refine b8d r5 (.tmp 59) rfl vo rfl HSL.o ?_;intro ev Eb hs U;have H5:=F<|rO.o.below U;have BW1:=F U;have SE:=F hs;clear hs U))|(go_at_call 24;refine(HV2.o _ H5.o ev SE.o).m ?_;rintro e w12 ⟨rfl,U⟩;have K12:=F<|H5.o.below U;have BW2:=F<|dw BW1.o U;clear U)|(go_at_call 23;refine(HS2.o _ K12.o).m ?_;rintro e w13 ⟨vl,rfl,hcr,U⟩;have K13:=F<|K12.o.below U;have BW3:=F<|dw BW2.o U;have CLw:=F<|hcr.a3r (am (show P.length<=1000000 by rw[xM.o,ay];exact am (dO _ _) hAn) P8);clear U hcr))
 clear rO H5 K12 c0Z HV2 HS2 SE BW1 BW2;have BA:=F BW3.o;obtain⟨N,hN⟩:=V (B.length);obtain⟨M,hM⟩:=V (P.length);have hMN:M<=1000000:=by rw[hM,xM.o,ay];exact am (dO _ _) hAn
 have XF:N<=1000000:=M0
 obtain⟨aa,ca,hva⟩:∃ a c,va=.slice a N c:=by
  obtain⟨c,_,h⟩:=CA.o;rcases h with⟨h0,a,e⟩|⟨b,o,_,e,_⟩
  ·exact⟨a,c,by rw[e,hN,h0];rfl⟩
  exact⟨_,c,by rw[e,hN]⟩
 obtain⟨al,cl,hvl⟩:∃ a c,vl=.slice a M c:=by
  obtain⟨c,_,h⟩:=CLw.o;rcases h with⟨h0,a,e⟩|⟨b,o,_,e,_⟩
  ·exact⟨a,c,by rw[e,hM,h0];rfl⟩
  exact⟨_,c,by rw[e,hM]⟩
 subst hva;subst hvl;have HNA:=F hN;have HML:=F hM;obtain⟨i1,hi1,hz1,hz2,hz3⟩:=b8P;have HI1:=F hi1;clear hN hM hAn BW3 h3 hi1
 go_upto_region 14 with fail
 go_loopw [18,19,20,21,22,23,24] (λxv nv iv _ _ _ _ wr=>∃ k n:Nat,k<=N/\iv=.int .i64 k/\nv=.int .i64 n/\Hid (n=((B.take k).filter f).length)/\Hid (r7 w13 wr)/\Hid (wr.ownsRow w13.heap.size 60 1 xv n (((B.take k).filter f).map λc=>b6Y (p5 c zs)))) (λ_ _ iv _ _ _ _ _=>N-(intOf iv).toNat)
 exact⟨0,0,aL _,rfl,rfl,F rfl,F (Below.refl _ _),F (World.ownsRow_nil _ _ _ _)⟩
 obtain⟨k,n,hk,rfl,rfl,HNK,BR,OX⟩:=hrel;have K:=F<|K13.o.below BR.o;by_cases hlt:k<N
 ·have hkl:k<B.length:=by have:=HNA.o;omega
  obtain⟨ba,oa,wv,rfl,hbb,hr,hzz⟩:=On CA.o k hkl;obtain⟨c,hc⟩:=V (B[k]);have hcm:c∈B:=by rw[hc];exact be hkl
  have htk:=a18 f hkl;rw[<-hc]at hr htk
  have hget:f c=true->∃ hn:n<P.length,P[n]=g c:=λh=>by
   obtain⟨Y,I⟩:=b8b f hkl (by rw[<-hc];exact h);have hn:=HNK.o;subst hn;have h3:((B.take k).filter f).length<P.length:=by rw[xM.o,ay];exact Y
   refine⟨h3,?_⟩;have h4:P[((B.take k).filter f).length]? = some (g c):=by rw[xM.o,eW,aG Y,I,hc];rfl
   rw[aG h3]at h4;exact bj h4
  obtain⟨me,hco,hcs,hcw⟩:=WQ.o c hcm;have FU:=HFF.o c;have hgc:=HGU.o c;have bw:=dw BA.o BR.o;have HRR:=F<|λW (U:r7 wr W)=>(show W.rangeAt ba (oa+k*8) (bA wv c).toList from λj x hj=>((dw bw U).cell (p:=⟨ba,oa+k*8+j,none⟩) hbb).trans (hr j x hj));obtain⟨yb,hyb⟩:=V (E c.url);have HCY:=F (show wr.cell? ⟨ba,oa+k*8,none⟩=some (.string yb) by rw[hyb];exact HRR.o wr (bg _) 0 (S c.url) rfl);have c06:=F (show ba<wr.heap.size from aN hbb bw.size);obtain⟨e1,e2⟩:=b9V u c.url c.words;obtain⟨l,huk⟩:=V ((ep u c).url);obtain⟨ik,hik⟩:=V ((ep u c).right)
  have SY:=F<|λW (U:r7 wr W)=>(show Calls prog 10 #[.agg (ai A u),.string yb] W λe w'=>∃ pj,e=.returned (.tuple #[.agg (ai pj l),.bool ik])/\w'.ownsRow W.heap.size 9 1 pj l.path.length (Strs l.path)/\r7 W w' from by
   have h:=b9f u A c.url W H8.o ((K.o.s.below U).more U.size) HUB.o.b me (K.o.e.below U);rw[e1,e2]at h;rw[hyb,huk,hik];exact h)
  rw[<-huk]at hco hcs hgc FU;rw[<-hik]at FU;have K8:=F hco.six;obtain⟨s,hs⟩:=V (dA l true);obtain⟨sb,hsb⟩:=V (E s);rw[<-hs]at FU hgc;have c1t:=F<|λ(pk:Z) W (hn:NE W) (hps:Sl W.heap.size W pk (l.path.map S))=>(show bF prog 11 #[.agg (ai pk l),.bool true] W (.string sb)from by rw[hsb,hs];exact b8W l pk W hco hps hn);obtain⟨q2,hq2⟩:=V (uP p l);obtain⟨q3,hq3⟩:=V (ti s);have HAC:=F<|λ(pk:Z) W (U:r7 w W) (hps:Sl W.heap.size W pk (l.path.map S))=>(show bF prog 12 #[.agg (aY T R tv p.most),.agg (ai pk l)] W (.bool q2)from by rw[hq2];exact RB p l T R tv pk W ((HP.o.below U).at HF9.o) hco hps hcs);have HFT:=F<|λ(pk:Z) W (hn:NE W) (hps:Sl W.heap.size W pk (l.path.map S))=>(show bF prog 25 #[.agg (ai pk l)] W (.bool q3)from by rw[hq3,hs];exact Pk l (ai pk l) pk W (lV pk hco.ok) hps hco.sm hn);rw[<-hq2,<-hq3]at FU;obtain⟨dd,hdd⟩:=V (p5 c zs);have HD1:=F<|λ(wv:Z) W=>(show bF prog 26 #[.agg (bA wv c),b6Y zs] W (b6Y dd)from by rw[hdd];exact UZ c wv zs W hcw);have HD2:=F<|λ(wv:Z) W=>(show bF prog 26 #[.agg (bA wv (g c)),b6Y zs] W (b6Y dd)from by rw[hdd,<-hgc.2.1];exact UZ (g c) wv zs W (by rw[hgc.2.2];exact hcw));have c1d:=F hget;have uh:=F htk;have HFC:=F FU;have HGC:=F hgc.1;have c1n:=F hsb;have HDD:=F hdd;clear hzz hc hcm hr hbb hkl htk hget me hco hcs hcw FU hgc bw hyb e1 e2 huk hik hs hsb hq2 hq3 hdd
  go_upto_region 16 with fail
  go_cut [21,22]from 69 to 78 (λv21 v22 wx=>∃ (g21:Nat) (pk:Z),v21=.pointer (some ⟨g21,0,none⟩)/\v22=.bool ik/\Hid (CB wx g21 34 (ai pk l))/\Hid (wx.ownsRow wr.heap.size 9 1 pk l.path.length (Strs l.path))/\Hid (r7 wr wx))
  case first =>
   refine wp_region_held_drew (S:=λW=>r7 wr W) Rz (by first|exact E3.o|exact E2.o|exact E1.o|exact hHeld|exact bG (bg _)) (λhHeld=>?_);refine tq 0 rfl ?_ (λwS hSw=>?_) ?_;rotate_left
   ·(try dsimp only at hSw)
    refine q8 (.tmp 13) ?_ g13 A u H8.o ?_ ?_
    ·rfl
    ·rfl
    exact K.o.y.keep hSw
   try simp only[Act.put,fH,fI,fJ]
   refine ek 1 ?_;refine ek 2 ?_;refine ek 3 ?_;refine ek 4 ?_;refine tq 5 rfl ?_ (λwS hSw=>?_) ?_;rotate_left
   ·(try dsimp only at hSw)
    refine bK 9 (.tmp 74) ?_ ba (oa+k*8) (.string yb) _ underlying9 rfl ?_ ?_
    ·rfl
    ·rfl
    exact(hSw.cell (p:=⟨ba,oa+k*8,none⟩) c06.o).trans HCY.o
   try simp only[Act.put,fH,fI,fJ]
   refine rn2 6 10 Rz rfl r5 ?_ rfl r5 ?_
   ·intro K hK
    go_simp
    refine(SY.o _ hHeld).m ?_;rintro e w5 ⟨pk,rfl,ok,U⟩;have E1:=F<|hHeld.trans (U.m hHeld.size);have OK5:=F ok;have LB:=F hHeld.size
    try have HGB:=F IF.o.lt
    try have IF:=F<|IF.o.below U
    clear U ok;refine hK.out _ _ ?_ (λhHeld=>?_)
    ·first|exact E3.o|exact E2.o|exact E1.o|exact hHeld|exact bG (bg _)
    clear hK K
    try simp only[Act.put,fH,fI,fJ]
    refine ek 7 ?_;refine ek 8 ?_;refine ek 9 ?_;refine rn 10 Rz rfl r5 (λK hK=>?_);refine Ff rfl ?_;intro g21 wa ia
    try have OKw:=OK5
    have EW:=F hHeld;have E2:=F<|hHeld.trans (ia.bL.m hHeld.size);have IF:=F ia;clear ia;refine hK.out _ _ ?_ (λhHeld=>?_)
    ·first|exact E3.o|exact E2.o|exact E1.o|exact hHeld|exact bG (bg _)
    clear hK K
    try simp only[Act.put,fH,fI,fJ]
    refine rn 11 Rz rfl r5 (λK hK=>?_);refine j5 34 (.tmp 21) (.tmp 77) rfl _ g21 34 (ai aI U0) IF.o 0 (cu pk l) rfl rfl (by rw[oF K8.o];exact bW rfl) (by rw[oF K8.o];exact iJ) (xe (bm OK5.o)) (ai pk l) (rz rfl K8.o) ?_;intro w7 i7 t7;have I7:=F i7;have E3:=F<|EW.o.trans (i7.bL.m EW.o.size);have OK7:=F (show w7.ownsRow wr.heap.size 9 1 pk l.path.length (Strs l.path)from by first|exact il (own_below' OKw.o i7.bL) LB.o|exact il (t7.row OK5.o HGB.o) LB.o);have UK:=F i7.cb;clear i7 t7 I7 EW IF;refine hK.out _ _ ?_ (λhHeld=>?_)
    ·first|exact E3.o|exact E2.o|exact E1.o|exact hHeld|exact bG (bg _)
    clear hK K
    try simp only[Act.put]
    refine ek 12 ?_;refine wpAnyH_done Rz ?_ _;go_wp2_with fail
    go_meet
    exact⟨g21,pk,rfl,rfl,UK,OK7,E3⟩
   intro K hK;refine Ff rfl ?_;intro g21 wa ia
   try have OKw:=OK5
   have EW:=F hHeld;have E2:=F<|hHeld.trans (ia.bL.m hHeld.size);have IF:=F ia;clear ia;refine hK.out _ _ ?_ (λhHeld=>?_)
   ·first|exact E3.o|exact E2.o|exact E1.o|exact hHeld|exact bG (bg _)
   clear hK K
   try simp only[Act.put,fH,fI,fJ]
   refine rn 6 Rz rfl r5 (λK hK=>?_)
   go_simp
   refine(SY.o _ hHeld).m ?_;rintro e w5 ⟨pk,rfl,ok,U⟩;have E1:=F<|hHeld.trans (U.m hHeld.size);have OK5:=F ok;have LB:=F hHeld.size
   try have HGB:=F IF.o.lt
   try have IF:=F<|IF.o.below U
   clear U ok;refine hK.out _ _ ?_ (λhHeld=>?_)
   ·first|exact E3.o|exact E2.o|exact E1.o|exact hHeld|exact bG (bg _)
   clear hK K
   try simp only[Act.put,fH,fI,fJ]
   refine ek 7 ?_;refine ek 8 ?_;refine ek 9 ?_;refine rn 11 Rz rfl r5 (λK hK=>?_);refine j5 34 (.tmp 21) (.tmp 77) rfl _ g21 34 (ai aI U0) IF.o 0 (cu pk l) rfl rfl (by rw[oF K8.o];exact bW rfl) (by rw[oF K8.o];exact iJ) (xe (bm OK5.o)) (ai pk l) (rz rfl K8.o) ?_;intro w7 i7 t7;have I7:=F i7;have E3:=F<|EW.o.trans (i7.bL.m EW.o.size);have OK7:=F (show w7.ownsRow wr.heap.size 9 1 pk l.path.length (Strs l.path)from by first|exact il (own_below' OKw.o i7.bL) LB.o|exact il (t7.row OK5.o HGB.o) LB.o);have UK:=F i7.cb;clear i7 t7 I7 EW IF;refine hK.out _ _ ?_ (λhHeld=>?_)
   ·first|exact E3.o|exact E2.o|exact E1.o|exact hHeld|exact bG (bg _)
   clear hK K
   try simp only[Act.put]
   refine ek 12 ?_;refine wpAnyH_done Rz ?_ _;go_wp2_with fail
   go_meet
   exact⟨g21,pk,rfl,rfl,UK,OK7,E3⟩
  case rest =>
   obtain⟨g21,pk,rfl,rfl,UK,OK7,E3⟩:=hcut;obtain⟨wy,hwy⟩:=V (wc);rw[<-hwy]at UK E3 OK7 ⊢;clear hwy SY HCY c06;have K2:=F<|K.o.below E3.o;have PK:=F<|Sl.g9 (sB OK7.o);have BR2:=F<|dw BR.o E3.o;have OX2:=F<|own_below' OX.o E3.o;clear OK7 K BR OX
   rcases(show(ik=false/\f c=false)\/(ik=true/\q2=false/\f c=false)\/(ik=true/\q2=true/\q3=false/\f c=false)\/(ik=true/\q2=true/\q3=true/\f c=true)from by
    rw[HFC.o];cases ik <;>cases q2 <;>cases q3 <;>simp)with⟨rfl,C⟩|⟨rfl,rfl,C⟩|⟨rfl,rfl,rfl,C⟩|⟨rfl,rfl,rfl,C⟩
   ·have D:=F (show(B.take (k+1)).filter f=(B.take k).filter f by rw[uh.o,C];simp)
    clear C;go_wp2_with fail;go_roundw
    exact⟨k+1,n,M0,by go_num,rfl,F (by rw[D.o];exact HNK.o),BR2,F (by rw[D.o];exact OX2.o)⟩
    simp[intOf];omega
   ·have D:=F (show(B.take (k+1)).filter f=(B.take k).filter f by rw[uh.o,C];simp)
    clear C
    go_wp2_with (first|((with_reducible apply bS);first|refine fj r5 (.tmp 5) rfl w.heap.size T R tv p.most rfl K2.o.c ?_|refine cR r5 (.tmp 21) rfl g21 pk l K8.o rfl UK.o ?_)|(go_at_call 12;refine(HAC.o pk _ K2.o.b PK.o).m ?_;rintro e wz ⟨rfl,U⟩;have BR3:=F<|dw BR2.o U;have OX3:=F<|own_below' OX2.o U;clear U))
    go_roundw
    exact⟨k+1,n,M0,by go_num,rfl,F (by rw[D.o];exact HNK.o),BR3,F (by rw[D.o];exact OX3.o)⟩
    simp[intOf];omega
   ·have D:=F (show(B.take (k+1)).filter f=(B.take k).filter f by rw[uh.o,C];simp)
    clear C
    go_wp2_with (first|((with_reducible apply bS);first|refine fj r5 (.tmp 5) rfl w.heap.size T R tv p.most rfl K2.o.c ?_|refine cR r5 (.tmp 21) rfl g21 pk l K8.o rfl UK.o ?_|refine cR r5 (.tmp 21) rfl g21 pk l K8.o rfl UK3.o ?_)|(go_at_call 12;refine(HAC.o pk _ K2.o.b PK.o).m ?_;rintro e wz ⟨rfl,U⟩;have BR3:=F<|dw BR2.o U;have OX3:=F<|own_below' OX2.o U;have K3:=F<|K2.o.below U;have UK3:=F<|UK.o.keep U;have PK3:=F<|(PK.o.below U).more U.size;clear U)|(go_at_call 25;refine(HFT.o pk _ K3.o.n PK3.o).m ?_;rintro e wu ⟨rfl,U⟩;have BR4:=F<|dw BR3.o U;have OX4:=F<|own_below' OX3.o U;clear U))
    go_roundw
    exact⟨k+1,n,M0,by go_num,rfl,F (by rw[D.o];exact HNK.o),BR4,F (by rw[D.o];exact OX4.o)⟩
    simp[intOf];omega
   have D:=F (show(B.take (k+1)).filter f=(B.take k).filter f++[c] by rw[uh.o,C];simp);obtain⟨hnl,hgn⟩:=c1d.o C;obtain⟨bl,ol,wl,rfl,hbl,hrl,hzz⟩:=On CLw.o n hnl;rw[hgn]at hrl;have hnM:n<M:=by have:=HML.o;omega
   have mX:=F hnM;clear hzz C hgn hnl uh HFC c1d
   go_upto_region 18 with(first|((with_reducible apply bS);first|refine fj r5 (.tmp 5) rfl w.heap.size T R tv p.most rfl K2.o.c ?_|refine cR r5 (.tmp 21) rfl g21 pk l K8.o rfl UK.o ?_|refine cR r5 (.tmp 21) rfl g21 pk l K8.o rfl UK3.o ?_)|(go_at_call 12;refine(HAC.o pk _ K2.o.b PK.o).m ?_;rintro e wz ⟨rfl,U⟩;have BR3:=F<|dw BR2.o U;have OX3:=F<|own_below' OX2.o U;have K3:=F<|K2.o.below U;have UK3:=F<|UK.o.keep U;have PK3:=F<|(PK.o.below U).more U.size;have E4:=F<|dw E3.o U;clear U)|(go_at_call 25;refine(HFT.o pk _ K3.o.n PK3.o).m ?_;rintro e w6 ⟨rfl,U⟩;have BR6:=F<|dw BR3.o U;have OX6:=F<|own_below' OX3.o U;have K6:=F<|K3.o.below U;have UZ6:=F<|UK3.o.keep U;have PK6:=F<|(PK3.o.below U).more U.size;have E6:=F<|dw E4.o U;clear U))
   clear K2 UK PK BR2 OX2 K3 UK3 PK3 BR3 OX3 E3 E4 HAC HFT;have EF:=F<|λW (U:r7 w6 W)=>(show W.rangeAt bl (ol+n*8) (bA wl (g c)).toList from λj x hj=>((dw BR6.o U).cell (p:=⟨bl,ol+n*8+j,none⟩) hbl).trans (hrl j x hj));have xl:=F (show w6.cell? ⟨bl,ol+n*8,none⟩=some (.string sb) by rw[c1n.o,<-HGC.o];exact EF.o w6 (bg _) 0 (S (g c).url) rfl);have LBL:=F (show bl<w6.heap.size from aN hbl BR6.o.size);have HSW:=F<|λW (U:r7 w6 W)=>c1t.o pk W (K6.o.n.below U) ((PK6.o.below U).more U.size);have c1i:=F<|λW (U:r7 w6 W)=>HRR.o W (dw E6.o U);have c9P:¬ M<=n:=M0;have c9Q:(n:Int)<(M:Int):=M0;clear hbl hrl c1t HRR E6 K6 PK6 c1n HGC
   go_cut [105]from 92 to 105 (λcv wx=>cv=.bool false/\Hid (r7 w6 wx))
   case first =>
    refine wp_region_held_drew (S:=λW=>r7 w6 W) Rz (by first|exact hHeld|exact bg _|exact bG (bg _)|exact J.o) (λhHeld=>?_);refine ek 0 ?_;refine ek 1 ?_;refine ek 2 ?_;refine ek 3 ?_;refine ek 4 ?_;refine ek 5 ?_;refine ek 6 ?_;refine ek 7 ?_;refine ek 8 ?_;refine tq 9 rfl ?_ (λwS hSw=>?_) ?_;rotate_left
    ·(try dsimp only at hSw)
     refine bK 9 (.tmp 100) ?_ bl (ol+n*8) (.string sb) _ underlying9 rfl ?_ ?_
     ·rfl
     ·rfl
     exact(hSw.cell (p:=⟨bl,ol+n*8,none⟩) LBL.o).trans xl.o
    try simp only[Act.put,fH,fI,fJ]
    refine tq 10 rfl ?_ (λwS hSw=>?_) ?_;rotate_left
    ·(try dsimp only at hSw)
     refine q8 (.tmp 21) ?_ g21 pk l K8.o ?_ ?_
     ·rfl
     ·rfl
     exact UZ6.o.keep hSw
    try simp only[Act.put,fH,fI,fJ]
    refine rn 11 Rz rfl r5 (λK hK=>?_)
    go_simp
    refine(HSW.o _ hHeld).m ?_;rintro e w7 ⟨rfl,U⟩;have J:=F<|dw hHeld U;clear U;refine hK.out _ _ ?_ (λhHeld=>?_)
    ·first|exact hHeld|exact bg _|exact bG (bg _)|exact J.o
    clear hK K
    try simp only[Act.put,fH,fI,fJ]
    refine ek 12 ?_;refine ek 13 ?_;refine wpAnyH_done Rz ?_ _;go_wp2_with fail
    go_meet
    exact⟨rfl,J⟩
   case rest =>
    obtain⟨rfl,EB⟩:=hcut;obtain⟨w7,hw7⟩:=V (wc);rw[<-hw7]at EB ⊢;clear hw7 HSW xl LBL UZ6;have HA7:=F<|c1i.o w7 EB.o
    go_upto_region 21 with(first|((with_reducible apply bS);refine lm r5 66 (.tmp 108) rfl ba (oa+k*8) rfl (bA wv c).toList _ HA7.o underlying66 rfl nP ?_)|(go_at_call 26;refine(HD1.o wv _).m ?_;rintro e w8x ⟨rfl,U⟩;have E8:=F<|dw EB.o U;clear U))
    have HB8:=F<|EF.o w8x E8.o;clear HA7 c1i EB HD1
    go_upto_region 22 with(first|((with_reducible apply bS);refine lm r5 66 (.tmp 114) rfl bl (ol+n*8) rfl (bA wl (g c)).toList _ HB8.o underlying66 rfl nP ?_)|(go_at_call 26;refine(HD2.o wl _).m ?_;rintro e w9x ⟨rfl,U⟩;have E9:=F<|dw E8.o U;clear U))
    have BR9:=F<|dw BR6.o E9.o;have OX9:=F<|own_below' OX6.o E9.o;have eM:=F BR9.o.size;clear HB8 EF HD2 E8 E9 BR6 OX6
    go_wp2_with (first|(go_at_call 27;refine(b6V dd _).m ?_;rintro e c50 ⟨rfl,hw⟩;subst c50)|(at_builtin;(refine et rfl (.tmp 122) (.tmp 124) _ rfl w13.heap.size 60 i1 (.float .f64 0) 8 underlying64 HI1.o hz1 hz2 hz3 P8 _ _ _ (((B.take k).filter f).map λc=>b6Y (p5 c zs)) rfl OX9.o (b6Y dd) rfl rfl M0 P8 eM.o ?_);intro v2 w2 hown2 hw2 hb2;have eJ:=F hown2;have HB2:=F<|BR9.o.trans hb2;clear hown2 hb2))
    go_roundw
    exact⟨k+1,n+1,M0,by go_num,by go_num,F (by rw[D.o,ae,<-HNK.o];rfl),HB2,F (by rw[D.o,eY,List.map_singleton,<-HDD.o];exact eJ.o)⟩
    simp[intOf];omega
 obtain rfl:k=N:=M0;have HTA:=F (show B.take k=B by rw[HNA.o];exact di);rw[HTA.o]at HNK OX;have hnM:n=M:=by rw[HNK.o,HML.o,xM.o,ay]
 subst hnM;have OX1:=F OX.o
 have WT:=F (show(P.map λc=>b6Y (p5 c zs))=(B.filter f).map λc=>b6Y (p5 c zs) by
  rw[xM.o,lu];exact jJ λc _=>by show b6Y (p5 (g c) zs)=_;rw[(HGU.o c).2.1])
 have HCW:=F<|λ(c:dk) (hc:c∈P)=>(show 0<=c.w/\c.w<=9223372036854775807 from by
  rw[xM.o]at hc;obtain⟨c',hc',rfl⟩:=dt.mp hc;rw[(HGU.o c').2.2];exact(WQ.o c' (a3J.mp hc').1).2.2.2)
 clear HNK OX CA HNA HTA WQ HFF HGU xM HUB HF9 hk XF hlt;obtain⟨wo,hwo⟩:=V (wr);subst hwo
 go_upto_region 28 with fail
 go_loopw [25,26] (λyv iv wr2=>∃ j:Nat,j<=n/\iv=.int .i64 j/\Hid (r7 wo wr2)/\Hid (wr2.ownsRow wo.heap.size 60 1 yv j ((P.take j).map λc=>b6Y (p5 c zs)))) (λ_ iv _=>n-(intOf iv).toNat)
 exact⟨0,aL _,rfl,F (Below.refl _ _),F (World.ownsRow_nil _ _ _ _)⟩
 obtain⟨j,hj,rfl,BS,OY⟩:=hrel;by_cases hlt:j<n
 ·have hjl:j<P.length:=by have:=HML.o;omega
  obtain⟨bl,ol,wl,rfl,hbl,hrl,hzz⟩:=On CLw.o j hjl;have b9E:=F<|HCW.o P[j] (be hjl);have htk:(P.take (j+1)).map (λc=>b6Y (p5 c zs))=(P.take j).map (λc=>b6Y (p5 c zs))++[b6Y (p5 P[j] zs)]:=by rw[aH hjl,eY,List.map_singleton]
  generalize P[j]=c at hrl b9E htk;obtain⟨dd,hdd⟩:=V (p5 c zs);rw[<-hdd]at htk;have HD1:=F<|λ(wv:Z) W=>(show bF prog 26 #[.agg (bA wv c),b6Y zs] W (b6Y dd)from by rw[hdd];exact UZ c wv zs W b9E.o);have HA7:=F (show wr.rangeAt bl (ol+j*8) (bA wl c).toList from λi x hi=>((dw BR.o BS.o).cell (p:=⟨bl,ol+j*8+i,none⟩) hbl).trans (hrl i x hi));have uh:=F htk;clear hzz htk hrl hbl hdd hjl b9E
  go_wp2_with (first|((with_reducible apply bS);refine lm r5 66 (.tmp 137) rfl bl (ol+j*8) rfl (bA wl c).toList _ HA7.o underlying66 rfl nP ?_)|(go_at_call 26;refine(HD1.o wl _).m ?_;rintro e w8x ⟨rfl,U⟩;have BS8:=F<|dw BS.o U;have OY8:=F<|own_below' OY.o U;have eM:=F BS8.o.size;clear U)|(at_builtin;(refine et rfl (.tmp 134) (.tmp 141) _ rfl wo.heap.size 60 i1 (.float .f64 0) 8 underlying64 HI1.o hz1 hz2 hz3 P8 _ _ _ ((P.take j).map λc=>b6Y (p5 c zs)) rfl OY8.o (b6Y dd) rfl rfl M0 P8 eM.o ?_);intro v2 w2 hown2 hw2 hb2;have eJ:=F hown2;have HB2:=F<|BS8.o.trans hb2;clear hown2 hb2))
  go_roundw
  exact⟨j+1,M0,by go_num,HB2,F (by rw[uh.o];exact eJ.o)⟩
  simp[intOf];omega
 obtain rfl:j=n:=M0;have hTL:P.take j=P:=by rw[HML.o];exact di
 rw[hTL,WT.o]at OY;obtain⟨ds,hds⟩:=V ((B.filter f).map λc=>p5 c zs);have hdl:(B.filter f).map (λc=>b6Y (p5 c zs))=ds.map b6Y:=by rw[hds,lu];rfl
 rw[hdl]at OY OX1 WT
 have hdn:j=ds.length:=by
  have:=congrArg List.length WT.o;rw[ay,ay]at this;rw[HML.o,this]
 have PQ:ds.length<=1000000000:=M0;have xO:=F<|λW (U:r7 wr W)=>EZ ds _ zw W ((((b8c OX1.o hdn).below (BS.o.trans (U.m BS.o.size))).more (am BS.o.size U.size))) PQ;have X1:=F<|λW (U:r7 wr W)=>EZ ds _ zw W (((b8c OY.o hdn).below U).more U.size) PQ;obtain⟨r,hr⟩:=V (pkF ds zw);rw[<-hr]at xO X1;have KE:=F<|K.o.b.trans (BS.o.m K.o.b.size);clear hTL hds hdl hdn PQ hr WT HCW HML OY OX1 CLw
 go_wp2_with (first|(go_at_call 28;with_reducible refine(xO.o _ (bg _)).m ?_;clear xO;rintro e wp ⟨rfl,U⟩;have BP:=F U;clear U)|(go_at_call 28;with_reducible refine(X1.o _ BP.o).m ?_;rintro e wq ⟨rfl,U⟩;have BQ:=F<|dw BP.o U;clear U))
 go_ret;exact⟨rfl,dw KE.o BQ.o⟩
