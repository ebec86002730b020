/- The walk of EmitBack, for texts up to 1048576 bytes. -/
import Derived.Test.YtmndlfglgcioeaaGreatDoorEGRdsL
set_option maxHeartbeats 40000000
namespace Go.Proofs.YtmndlfglgcioeaaGreatDoor
open Tryz
open Go.RowKit
set_option maxRecDepth 10000
theorem MO(kind:Int)(l:List eG){k:Nat}(hk:k<l.length):cP kind (l.take (k+1))=cP kind (l.take k)++(if mM kind l[k]=true then [l[k]]else []):=by
 unfold cP;rw[aI hk,fX]
 congr 1
 split
 ·next h=>exact bk h
 next h=>exact bj h
theorem wW(kind:Int)(l:List eG):(cP kind l).length<=l.length:=eZ _ _
theorem emitBack_walk(kind:Int)(t:ByteArray)(v:Value)(l:Bytes)(w:World)(_:(Lit.int .i64 kind).wf=true)(_:t.size<=maxLen)(hv:Sl w.heap.size w v (Lib.byteCells l))(ub:t.size<=1048576)(hE:Env w)(hN:NE w) :
  bN prog 8 #[.int .i64 kind,.string t,v] w (.bool true):=by
 have HSM:=h_ (ES w hN);have hba:=fun(W:World) (hW:Below w.heap.size w W)=>FP t W ub (hE.below hW);have HE:=h_ hE;have HNE:=h_ hN;have HV:=h_ hv
 obtain⟨av,cv,rfl⟩:∃ a c,v=.slice a l.length c:=by
  rcases Ik hv with⟨rfl,a,c,rfl⟩|⟨b,o,c,_,_,rfl,_⟩
  ·exact⟨a,c,rfl⟩
  exact⟨_,c,rfl⟩
 obtain⟨L,hL⟩:=az (l.length);have HL:=h_ hL;rw[<-hL]at HV ⊢;clear hv hL hN;cases hb:gM (ls t)with
 |none =>
  rw[hb]at hba;have vj:=h_ (show ∀W,Below w.heap.size w W->bN prog 10 #[.string t] W (.tuple #[.agg (ai aR U0),.bool false])from hba);clear hba hb hE;go_enter func8,ntmps8
  go_wp2_with (first
   |(go_at_call 23;refine(HSM.out).mono ?_;rintro e w1 ⟨rfl,hb⟩;have B1:=h_ hb;clear hb)
   |(go_at_call 10;refine(vj.out _ B1.out).mono ?_;rintro e w2 ⟨rfl,hb⟩;have B2:=h_ (B1.out.trans (hb.mono B1.out.size));clear hb)
   |((with_reducible refine ig ?_);refine aS rfl 30 rfl _ _ (ef _) ?_;refine fP rfl (.tmp 8) (.tmp 18) rfl aR U0 rfl rfl rfl rfl rfl ?_;intro w3 h3 hb;have B3:=h_ (B2.out.trans (hb.mono B2.out.size));clear h3 hb)
   |fail)
  go_ret;exact⟨rfl,B3.out⟩
 |some u =>
  rw[hb]at hba;obtain⟨q,hq⟩:=az (decide (t.size<=300));have vj:=h_ (show ∀W,Below w.heap.size w W->Calls prog 10 #[.string t] W fun e w'=>∃ pv,e=.returned (.tuple #[.agg (ai pv u),.bool q])∧w'.ownsRow W.heap.size 9 1 pv u.path.length (Strs u.path)∧Below W.heap.size W w' from by rw[hq];exact hba);have H8:=h_ (Eu hb);have HBU:=h_ hb;have HQ:=h_ hq;clear hba hb hE hq;go_enter func8,ntmps8
  go_upto_region 3 with(first
   |(go_at_call 23;refine(HSM.out).mono ?_;rintro e w1 ⟨rfl,hb⟩;have B1:=h_ hb;clear hb)
   |(go_at_call 10;refine(vj.out _ B1.out).mono ?_;rintro e w2 ⟨pv,rfl,oo,hb⟩;have O2:=h_ oo;have B2:=h_ (B1.out.trans (hb.mono B1.out.size));clear hb oo)
   |((with_reducible refine ig ?_);refine aS rfl 30 rfl _ _ (ef _) ?_;refine fP rfl (.tmp 8) (.tmp 18) rfl pv u H8.out (bm O2.out) rfl rfl rfl ?_;intro w3 h3 hb;have U3:=h_ h3;have B3:=h_ (B2.out.trans (hb.mono B2.out.size));have O3:=h_ (own_below' O2.out hb);clear h3 hb)
   |fail)
  obtain⟨g8,hg8⟩:=az (w2.heap.size);rw[<-hg8]at U3 ⊢;clear hg8 B1 B2 O2 HSM vj;cases q with
  |false =>
   go_wp2_with fail
   go_ret;exact⟨rfl,B3.out⟩
  |true =>
   have htl:(ls t).length<=300:=by rw[fx];exact of_decide_eq_true HQ.out.symm
   by_cases h3:300<L
   ·have h3':(300:Int)<(L:Int):=by omega
    go_wp2_with fail
    go_ret;exact⟨rfl,B3.out⟩
   have h3':¬ (300:Int)<(L:Int):=by omega
   have hU:=Fa (s:=ls t) (by omega) HBU.out;have hvl:=XC (l:=l) (by have:=HL.out;omega);obtain⟨V,hV⟩:=az (oj l);rw[<-hV]at hvl;obtain⟨R,hR⟩:=az (fK kind u V)
   have Cb:=h_ (fun(pv:Value) W (hb:Below w.heap.size w W) (hpv:Sl W.heap.size W pv (u.path.map S))=>(show Calls prog 19 #[.int .i64 kind,.agg (ai pv u),.slice av L cv] W (kt W R)from by
    rw[hR,hV];exact Ew kind u pv l _ W H8.out hpv hU.b ((HV.out.below hb).more hb.size) (by have:=HL.out;omega) (HE.out.below hb)))
   have HUK:=h_ (show ∀i∈R.items,OV i.url from by rw[hR];exact a1q htl (by omega) HBU.out);have hrl:R.items.length<=6000:=by have:=a1p kind u V;rw[hR];omega
   obtain⟨LK,Un⟩:=az (cP kind R.items);obtain⟨d,hd⟩:=az (R.delay);obtain⟨s2,hs2⟩:=az (ic kind LK d);have hkl:=D9 (kind:=kind) htl HBU.out hvl;have hkn:LK.length<=1000000000:=by have:=wW kind R.items;rw[Un];omega
   have HKN:=h_ hkn;have HLM:=h_ (show(fM LK).length<=150000000000 by have:=Ef LK;rw[hR]at Un;rw[<-Un]at hkl;omega);have OF:=h_ (show d.length<=100000 by have:=Kx (kind:=kind) (b:=u) (s:=V);rw[hd,hR];omega);have HLU:=h_ (show ∀i∈LK,OV i.url from fun i hi=>HUK.out i (by rw[Un]at hi;exact(fy hi).1))
   have HWR:=h_ (fun(x:Value) W (hb:Below w.heap.size w W) (hx:fS W 0 x LK)=>(show bN prog 25 #[.int .i64 kind,.agg #[x,S d]] W (S s2)from by
    rw[hs2];exact v8 kind LK x d W (hx.items fun i hi=>(HLU.out i hi).ok) (fun i hi=>(HLU.out i hi).sm) HLM.out HKN.out OF.out (HNE.out.below hb)))
   have HEM:=h_ (show LK=[]->s2=[]from fun h=>by rw[hs2,h];rfl)
   have hbk:LK ≠ []->fK kind u (oj s2)=⟨LK,d⟩:=fun h=>by
    rw[hs2,Un,hd,hR];rw[Un,hR]at h;exact LS (jT HBU.out) h
   have hvm:LK ≠ []->Ve kind s2∧∃ B,s2=eX B∧(∀y∈B,eo y):=fun h=>by
    rw[hs2,Un,hd,hR];rw[Un,hR]at h;exact LU htl HBU.out hvl h
   have HVM:=h_ hvm
   have yp:=h_ (fun(hne:LK ≠ []) (pv ev:Value) W (hb:Below w.heap.size w W) (hpv:Sl W.heap.size W pv (u.path.map S)) (hev:Sl W.heap.size W ev (Lib.byteCells s2))=>(show Calls prog 19 #[.int .i64 kind,.agg (ai pv u),ev] W (kt W ⟨LK,d⟩)from by
    have h2:=ua kind u pv s2 ev W H8.out hpv hU.b hev (hvm hne).1 (HE.out.below hb);rw[hbk hne]at h2;exact h2))
   have Ze:=h_ (fun(it:eG) (pv:Value) W (hi:it∈R.items) (hb:Below w.heap.size w W) (hpv:Sl W.heap.size W pv (it.url.path.map S))=>DA it.url (ai pv it.url) pv W (sj pv (HUK.out it hi).ok) hpv (HUK.out it hi).sm (HNE.out.below hb));have Cv:=h_ (show ∀i∈R.items,i.url.host.six.length=8 from fun i hi=>(HUK.out i hi).six);obtain⟨N,hN⟩:=az (R.items.length);rw[<-hN]at hrl;have HN:=h_ hN;have HLK:=h_ Un;have HD:=h_ hd;clear hU hvl hV hR Un hd hs2 hkl hkn hbk hvm hN htl HUK HLM OF HLU HBU HV HL HQ
   go_upto_region 6 with(first
    |((with_reducible refine ig ?_);refine Sc rfl 30 (.tmp 8) rfl g8 (ai pv u) _ underlying30 rfl (by rw[jX H8.out];exact iI) rfl U3.out ?_)
    |(go_at_call 19;refine(Cb.out pv _ B3.out (Sl.dM (lq O3.out))).mono ?_;rintro e w4 ⟨v4,rfl,ir,hb⟩;have FH:=h_ ir;have B4:=h_ (B3.out.trans (hb.mono B3.out.size));have U4:=h_ (U3.out.keep hb);have O4:=h_ (own_below' O3.out hb);have S4:=h_ hb.size;clear hb ir)
    |((with_reducible refine ig ?_);refine aS rfl 35 rfl _ _ (tK _) ?_;refine Xl rfl (.tmp 10) (.tmp 31) rfl v4 R.delay (fS.one' FH.out) rfl rfl rfl ?_;intro w5 i5;have I5:=h_ i5;clear i5)
    |fail)
   obtain⟨g10,Q0⟩:=az (w4.heap.size);have HG:=h_ (show g10=w4.heap.size∧g10<w5.heap.size from⟨Q0,by rw[Q0];exact I5.out.lt⟩);rw[<-Q0,<-HD.out]at I5;rw[<-Q0];have Y0:=h_ I5.out.bL;have B5:=h_ (B4.out.trans (Y0.out.mono B4.out.size));have U5:=h_ (U4.out.keep Y0.out);have O5:=h_ (own_below' O4.out Y0.out);obtain⟨a4,c4,e4⟩:=FH.out.len;rw[<-HN.out]at e4;subst e4;clear Q0 B3 U3 O3 Cb;obtain⟨m,hm⟩:=az ((kind==2));replace hm:=hm.symm
   have HM:=h_ (show ∀it:eG,mM kind it=(it.right&&(!m||lR (di it.url true)))from fun it=>by
    unfold mM;rw[<-hm]
    congr 2
    by_cases h:kind=2 <;>simp[h])
   obtain⟨B3h,a0l⟩:=az (w3.heap.size);have HB3:=h_ (show B3h<=w4.heap.size by rw[a0l];exact S4.out);rw[<-a0l]at FH;clear a0l S4;obtain⟨b1,hb1⟩:=az (w5.heap.size);have HB1:=h_ hb1
   go_wp2_with fail
   go_loopw [11,12] (fun lv iv wr=>∃ k:Nat,k<=N∧iv=.int .i64 k∧Hid (mx w4 wr B3h b1 lv (cP kind (R.items.take k)))∧Hid (Below b1 w5 wr)) (fun _ i _=>N-(intOf i).toNat)
   case atStart=>exact⟨0,aK _,rfl,h_ (mx.nil _ _ _ _),h_ (by rw[HB1.out];exact Below.refl _ _)⟩
   case round =>
    obtain⟨k,hk,rfl,LR,BR⟩:=hrel;have N8:=h_ (show Below w5.heap.size w5 wr by have:=BR.out;rw[HB1.out]at this;exact this);have CR:=h_ (I5.out.cb.keep N8.out);have f1:wr.cell? ⟨g10,0,none⟩=some (.slice a4 N c4):=CR.out.aF rfl;by_cases hkN:k<N
    ·have hkl:k<R.items.length:=by have:=HN.out;omega
     have hne:R.items ≠ []:=fun h=>by rw[h]at hkl;exact absurd hkl (cg _)
     have B4r:=h_ (show Below w4.heap.size w4 wr from Y0.out.trans (N8.out.mono Y0.out.size));obtain⟨g1,p1,ea,_,at1⟩:=FH.out.open hne;obtain⟨pw,ww,ca,My⟩:=at1 k hkl;rw[<-HN.out]at ea;injection ea with ea x1 x2
     clear x1 x2;subst ea;obtain⟨it,hit⟩:=az (R.items[k]);have Cp:=h_ (show it∈R.items by rw[hit];exact bw hkl);have htk:=MO kind R.items hkl;rw[<-hit]at ca My htk;have yr:=h_ htk;have HX:=h_ My.six;have HIP:=h_ My;have RA:=h_ (show wr.rangeAt g1 (k*25) (aO pw ww it)from fun j x hj=>(B4r.out.cell (p:=⟨g1,k*25+j,none⟩) (World.block_lt_of_cell? _ _ (ca j x hj))).trans (ca j x hj))
     have RU:=h_ (show wr.rangeAt g1 (k*25+1) (aV pw it.url)from fun j x hj=>by
      rw[tH];exact RA.out (1+j) x (GV hj))
     have X0:=h_ (((Sl.dM (lq My.path)).below B4r.out).more B4r.out.size);obtain⟨rt,hrt⟩:=az (it.right)
     have e0:wr.cell? ⟨g1,k*25,none⟩=some (.bool rt):=by
      have:=RA.out 0 (.bool it.right) rfl;rw[hrt];exact this
     obtain⟨ft,hft⟩:=az (lR (di it.url true));have hFT:=Ze.out it pw wr Cp.out (B5.out.trans (N8.out.mono B5.out.size)) X0.out;rw[<-hft]at hFT;have HFT:=h_ hFT;have hki:=HM.out it;rw[<-hrt,<-hft]at hki;have HKI:=h_ hki;have HRT:=h_ hrt;clear at1 ca My hit htk hne hkl hFT hft hki hrt;cases rt with
     |false =>
      have Zc:=h_ (show cP kind (R.items.take (k+1))=cP kind (R.items.take k) by rw[yr.out,HKI.out];simp)
      go_wp2_with fail
      go_roundw
      case rel=>exact⟨k+1,by omega,by go_num,by rw[Zc.out];exact LR,BR⟩
      case measure=>simp[intOf];omega
     |true =>
      cases m with
      |false =>
       have hm':¬ kind=2:=by simpa using hm
       have Zc:=h_ (show cP kind (R.items.take (k+1))=cP kind (R.items.take k)++[it] by rw[yr.out,HKI.out];simp);have OL:=h_ (show(cP kind (R.items.take k)).length+1<=1000000000 by have:=wW kind (R.items.take k);rw[aE]at this;omega)
       go_wp2_with (first
        |((with_reducible refine ig ?_);refine AX rfl (.tmp 62) rfl g1 (k*25) pw ww it HX.out RA.out rfl ?_;refine pC rfl (.tmp 63) rfl pw ww it HX.out rfl ?_;refine YM rfl (.tmp 58) (.tmp 64) rfl w4 B3h b1 rfl LR.out HIP.out rfl OL.out (by rw[HB1.out];exact N8.out.size) ?_;intro v9 w9 ir b9;have LR9:=h_ ir;have B9:=h_ (BR.out.trans b9);clear ir b9)
        |fail)
       go_roundw
       case rel=>exact⟨k+1,by omega,by go_num,by rw[Zc.out];exact LR9,B9⟩
       case measure=>simp[intOf];omega
      |true =>
       have hn2:(kind != 2)=false:=by unfold bne;rw[hm];rfl
       cases ft with
       |false =>
        have Zc:=h_ (show cP kind (R.items.take (k+1))=cP kind (R.items.take k) by rw[yr.out,HKI.out];simp)
        go_wp2_with (first
         |((with_reducible refine ig ?_);refine AY (by rfl) (.tmp 53) rfl g1 (k*25+1) pw it.url HX.out rfl RU.out ?_)
         |(go_at_call 24;refine(HFT.out).mono ?_;rintro e w7 ⟨rfl,hb⟩;have B7:=h_ hb;clear hb)
         |fail)
        have LR7:=h_ (LR.out.below B7.out);have BR7:=h_ (show Below b1 w5 w7 from BR.out.trans (B7.out.mono (by rw[HB1.out];exact N8.out.size)));go_roundw
        case rel=>exact⟨k+1,by omega,by go_num,by rw[Zc.out];exact LR7,BR7⟩
        case measure=>simp[intOf];omega
       |true =>
        have Zc:=h_ (show cP kind (R.items.take (k+1))=cP kind (R.items.take k)++[it] by rw[yr.out,HKI.out];simp);have OL:=h_ (show(cP kind (R.items.take k)).length+1<=1000000000 by have:=wW kind (R.items.take k);rw[aE]at this;omega)
        go_upto_region 11 with(first
         |((with_reducible refine ig ?_);refine AY (by rfl) (.tmp 53) rfl g1 (k*25+1) pw it.url HX.out rfl RU.out ?_)
         |(go_at_call 24;refine(HFT.out).mono ?_;rintro e w7 ⟨rfl,hb⟩;have B7:=h_ hb;clear hb)
         |fail)
        have LR7:=h_ (LR.out.below B7.out);have BR7:=h_ (show Below b1 w5 w7 from BR.out.trans (B7.out.mono (by rw[HB1.out];exact N8.out.size)));have BS7:=h_ (show b1<=w7.heap.size by rw[HB1.out];exact ap N8.out.size B7.out.size);have RA7:=h_ (show w7.rangeAt g1 (k*25) (aO pw ww it)from fun j x hj=>(B7.out.cell (p:=⟨g1,k*25+j,none⟩) (World.block_lt_of_cell? _ _ (RA.out j x hj))).trans (RA.out j x hj));have f7:w7.cell? ⟨g10,0,none⟩=some (.slice (some ⟨g1,0,none⟩) N c4):=(CR.out.keep B7.out).aF rfl
        go_wp2_with (first
         |((with_reducible refine ig ?_);refine AX rfl (.tmp 62) rfl g1 (k*25) pw ww it HX.out RA7.out rfl ?_;refine pC rfl (.tmp 63) rfl pw ww it HX.out rfl ?_;refine YM rfl (.tmp 58) (.tmp 64) rfl w4 B3h b1 rfl LR7.out HIP.out rfl OL.out BS7.out ?_;intro v9 w9 ir b9;have LR9:=h_ ir;have B9:=h_ (BR7.out.trans b9);clear ir b9)
         |fail)
        go_roundw
        case rel=>exact⟨k+1,by omega,by go_num,by rw[Zc.out];exact LR9,B9⟩
        case measure=>simp[intOf];omega
    obtain rfl:k=N:=by omega
    have Ap:=h_ (show cP kind (R.items.take k)=LK by rw[HN.out,dx,HLK.out]);have LRL:=h_ (show mx w4 wr B3h b1 _ LK by have:=LR.out;rw[Ap.out]at this;exact this);obtain⟨aL,cL,eL⟩:=LRL.out.len;obtain⟨M,hM⟩:=az (LK.length);rw[<-hM]at eL;subst eL;have OBr:=h_ (OB.of (w0:=w4) CR.out (bR HG.out.1.symm) (Y0.out.trans (N8.out.mono Y0.out.size)));have U6:=h_ (U5.out.keep N8.out);have O6:=h_ (own_below' O5.out N8.out);have B6:=h_ (B5.out.trans (N8.out.mono B5.out.size));have XX:=h_ hM;clear LR hM Ze Cv U5 O5
    go_upto_region 13 with(first
     |((with_reducible refine ig ?_);refine xn rfl (.tmp 67) (.tmp 66) rfl w4 g10 OBr.out _ (mx.one' LRL.out) rfl rfl ?_;intro w8 i8 t8;have I8:=h_ i8;have T8:=h_ t8;clear i8 t8)
     |fail)
    have a7g:=h_ (show B3h<=b1 by have h1:=HB3.out;have h2:=HG.out;have h3:=HB1.out;omega);have LR8:=h_ (LRL.out.tn T8.out (by have h2:=HG.out.2;have h3:=HB1.out;omega));have B48:=h_ I8.out.bL;have B8:=h_ (B4.out.trans (B48.out.mono B4.out.size));have Uh:=h_ (LR8.out.row B48.out a7g.out);have U8:=h_ (U4.out.keep B48.out);have O8:=h_ (own_below' O4.out B48.out);clear f1 U6 O6 B6 OBr LRL T8 LR8 U4 O4 CR BR N8 I5 FH;obtain⟨vL,hvL⟩:=az (Value.slice aL M cL);have HVL:=h_ hvL;clear hvL
    go_upto_region 14 with(first
     |((with_reducible refine ig ?_);refine wE rfl (.tmp 10) rfl w4 g10 _ d I8.out rfl ?_)
     |(go_at_call 25;refine(HWR.out _ _ B8.out (Uh.out.base (aK _))).mono ?_;rintro e wz ⟨rfl,hb⟩;have BZ:=h_ (B8.out.trans (hb.mono B8.out.size));have UZ:=h_ (U8.out.keep hb);have OZ:=h_ (own_below' O8.out hb);have IZ:=h_ (Uh.out.below hb);have CZ:=h_ (I8.out.cb.keep hb);clear hb)
     |fail)
    clear HWR U8 O8 Uh I8 B8 B48;by_cases hne:LK=[]
    ·have hM0:M=0:=by rw[XX.out,hne];rfl
     have hs0:=HEM.out hne;clear yp HVM;subst hM0;subst hs0;have e1:(bs []).toList.isEmpty=true:=by rw[ay];rfl
     have e2:(bs []).toList=[]:=by rw[ay]
     clear hne
     go_wp2_with fail
     go_ret;exact⟨by simp,BZ.out⟩
    have hM1:¬ (M:Int)=0:=by
     intro h;exact hne (ak (by have:=XX.out;omega))
    have hM2:((M:Int)==0)=false:=by simpa using hM1
    have uK:=h_ (fun(ev:Value) W (hb:Below wz.heap.size wz W) (hs:Sl W.heap.size W ev (Lib.byteCells s2))=>yp.out hne pv ev W (BZ.out.trans (hb.mono BZ.out.size)) (((Sl.dM (lq OZ.out)).below hb).more hb.size) hs);obtain⟨hvl,B,hB,ha⟩:=HVM.out hne;have HSL:=h_ (show s2.length<=maxLen by have:=hvl.n;unfold maxLen;omega);have HPL:=h_ (fun W=>Nc s2 W (by have:=hvl.n;omega) (by rw[hB];exact zC ha))
    have HSE:=h_ (fun W=>(show bN prog 27 #[.string (bs s2)] W (.bool true)from by
     have h1:=hvl.n;rw[hB]at h1 ⊢;exact EQ B W h1))
    have HUI:=h_ (show(prog.info? 30).map (·.size)=some (ai pv u).size by rw[jX H8.out];exact iI);clear yp HVM hvl hB ha hne OZ
    go_upto_region 16 with fail
    rw[<-HVL.out]at IZ CZ ⊢;refine wp_region_held_drew (S:=fun W=>Below wz.heap.size wz W) (by kernel_rfl) (by first|exact hHeld|exact bH (bz _)|exact D5.out|exact D4.out|exact D3.out|exact D2.out|exact D1.out) (fun hHeld=>?_);refine tq 0 rfl ?_ (fun wS hSw=>?_) ?_;rotate_left
    ·(try dsimp only at hSw);go_simp;first|done|with_reducible rfl
    try simp only[Act.put,cE,cF,cG]
    refine tq 1 rfl ?_ (fun wS hSw=>?_) ?_;rotate_left
    ·(try dsimp only at hSw);go_simp;first|done|with_reducible rfl
    try simp only[Act.put,cE,cF,cG]
    refine tq 2 rfl ?_ (fun wS hSw=>?_) ?_;rotate_left
    ·(try dsimp only at hSw);go_simp;first|done|with_reducible rfl
    try simp only[Act.put,cE,cF,cG]
    refine tq 3 rfl ?_ (fun wS hSw=>?_) ?_;rotate_left
    ·(try dsimp only at hSw)
     refine iW 30 (.tmp 8) ?_ g8 (ai pv u) _ underlying30 rfl HUI.out ?_ ?_
     ·rfl
     ·rfl
     exact UZ.out.keep hSw
    try simp only[Act.put,cE,cF,cG]
    refine tq 4 rfl ?_ (fun wS hSw=>?_) ?_;rotate_left
    ·(try dsimp only at hSw);go_simp;first|done|with_reducible rfl
    try simp only[Act.put,cE,cF,cG]
    refine tq 7 rfl ?_ (fun wS hSw=>?_) ?_;rotate_left
    ·(try dsimp only at hSw)
     refine iW 35 (.tmp 10) ?_ g10 (bI vL d) _ underlying35 rfl pO ?_ ?_
     ·rfl
     ·rfl
     exact CZ.out.keep hSw
    try simp only[Act.put,cE,cF,cG]
    refine rn 5 (by kernel_rfl) rfl (by rfl) (fun K hK=>?_);refine PT (.tmp 83) rfl s2 rfl HSL.out ?_;intro ev w1x hs1 hb;have D1:=h_ (hHeld.trans (hb.mono hHeld.size));have SE1:=h_ hs1;clear hs1 hb;refine hK.out _ _ ?_ (fun hHeld=>?_)
    ·first|exact hHeld|exact bH (bz _)|exact D5.out|exact D4.out|exact D3.out|exact D2.out|exact D1.out
    clear hK K
    try simp only[Act.put,cE,cF,cG]
    refine rn 6 (by kernel_rfl) rfl (by rfl) (fun K hK=>?_)
    go_simp
    refine(uK.out ev _ hHeld SE1.out).mono ?_;rintro e w2x ⟨va,rfl,ira,hb⟩;have D2:=h_ (hHeld.trans (hb.mono hHeld.size));have IA:=h_ ira;clear hb ira;refine hK.out _ _ ?_ (fun hHeld=>?_)
    ·first|exact hHeld|exact bH (bz _)|exact D5.out|exact D4.out|exact D3.out|exact D2.out|exact D1.out
    clear hK K;refine rn 8 (by kernel_rfl) rfl (by rfl) (fun K hK=>?_)
    go_simp
    refine(If ⟨LK,d⟩ va vL _ _ _ IA.out (IZ.out.below hHeld) HKN.out).mono ?_;rintro e w3x ⟨rfl,hb⟩;have D3:=h_ (hHeld.trans (hb.mono hHeld.size));clear hb;refine hK.out _ _ ?_ (fun hHeld=>?_)
    ·first|exact hHeld|exact bH (bz _)|exact D5.out|exact D4.out|exact D3.out|exact D2.out|exact D1.out
    clear hK K
    try simp only[Act.put,cE,cF,cG]
    refine tq 9 rfl ?_ (fun wS hSw=>?_) ?_;rotate_left
    ·(try dsimp only at hSw);go_simp;first|done|with_reducible rfl
    try simp only[Act.put,cE,cF,cG]
    refine tq 10 rfl ?_ (fun wS hSw=>?_) ?_;rotate_left
    ·(try dsimp only at hSw);go_simp;first|done|with_reducible rfl
    try simp only[Act.put,cE,cF,cG]
    refine tq 11 rfl ?_ (fun wS hSw=>?_) ?_;rotate_left
    ·(try dsimp only at hSw);go_simp;first|done|with_reducible rfl
    try simp only[Act.put,cE,cF,cG]
    refine rn 12 (by kernel_rfl) rfl (by rfl) (fun K hK=>?_)
    go_simp
    refine(HPL.out _).mono ?_;rintro e w4x ⟨rfl,hb⟩;have D4:=h_ (hHeld.trans (hb.mono hHeld.size));clear hb;refine hK.out _ _ ?_ (fun hHeld=>?_)
    ·first|exact hHeld|exact bH (bz _)|exact D5.out|exact D4.out|exact D3.out|exact D2.out|exact D1.out
    clear hK K
    try simp only[Act.put,cE,cF,cG]
    refine tq 13 rfl ?_ (fun wS hSw=>?_) ?_;rotate_left
    ·(try dsimp only at hSw);go_simp;first|done|with_reducible rfl
    try simp only[Act.put,cE,cF,cG]
    refine tq 14 rfl ?_ (fun wS hSw=>?_) ?_;rotate_left
    ·(try dsimp only at hSw);go_simp;first|done|with_reducible rfl
    try simp only[Act.put,cE,cF,cG]
    refine tq 15 rfl ?_ (fun wS hSw=>?_) ?_;rotate_left
    ·(try dsimp only at hSw);go_simp;first|done|with_reducible rfl
    try simp only[Act.put,cE,cF,cG]
    refine rn 16 (by kernel_rfl) rfl (by rfl) (fun K hK=>?_)
    go_simp
    refine(HSE.out _).mono ?_;rintro e w5x ⟨rfl,hb⟩;have D5:=h_ (hHeld.trans (hb.mono hHeld.size));clear hb;refine hK.out _ _ ?_ (fun hHeld=>?_)
    ·first|exact hHeld|exact bH (bz _)|exact D5.out|exact D4.out|exact D3.out|exact D2.out|exact D1.out
    clear hK K
    try simp only[Act.put,cE,cF,cG]
    refine tq 17 rfl ?_ (fun wS hSw=>?_) ?_;rotate_left
    ·(try dsimp only at hSw);go_simp;first|done|with_reducible rfl
    try simp only[Act.put,cE,cF,cG]
    refine tq 18 rfl ?_ (fun wS hSw=>?_) ?_;rotate_left
    ·(try dsimp only at hSw);go_simp;first|done|with_reducible rfl
    try simp only[Act.put,cE,cF,cG]
    refine wpAnyH_done (by kernel_rfl) ?_ _
    go_wp2_with fail
    go_ret;exact⟨rfl,BZ.out.trans (D5.out.mono BZ.out.size)⟩
end Go.Proofs.YtmndlfglgcioeaaGreatDoor
