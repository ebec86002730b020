/- The walk of ReadsEscaped, for texts up to 1048576 bytes. -/
import Derived.Test.YtmndlfglgcioeaaGreatDoorGRdsL
import Derived.Test.YtmndlfglgcioeaaGreatDoorGEmB
set_option maxHeartbeats 40000000
namespace Go.Proofs.YtmndlfglgcioeaaGreatDoor
open Tryz
open Go.RowKit
set_option maxRecDepth 10000
theorem readsEscaped_walk (kind:Int) (t:ByteArray) (v:Value) (l:Bytes) (w:World) (_:(Lit.int .i64 kind).wf=true) (_:t.size<=maxLen) (hv:Sl w.heap.size w v (Lib.byteCells l)) (ub:t.size<=1048576) (hE:Env w) :
  Calls prog 6 #[.int .i64 kind,.string t,v] w fun e w'=>e=.returned (.bool true)∧Below w.heap.size w w':=by
 have uF:=h_ (ii w hE)
 have hba:=fun(W:World) (hW:Below w.heap.size w W)=>kP t W ub (hE.below hW)
 have HE:=h_ hE
 have HV:=h_ hv
 obtain⟨av,cv,rfl⟩:∃ a c,v=.slice a l.length c:=by
  rcases ud hv with⟨rfl,a,c,rfl⟩|⟨b,o,c,_,_,rfl,_⟩
  ·exact⟨a,c,rfl⟩
  exact⟨_,c,rfl⟩
 obtain⟨L,hL⟩:=ap (l.length)
 have HL:=h_ hL
 rw[<-hL]at HV ⊢
 clear hv hL
 cases hb:gv (ls t)with
 |none =>
  rw[hb]at hba
  have lA:=h_ (show ∀W,Below w.heap.size w W->Calls prog 10 #[.string t] W fun e w'=>e=.returned (.tuple #[.agg (ah aD U0),.bool false])∧Below W.heap.size W w' from hba)
  clear hba hb hE
  go_enter func6,ntmps6
  go_wp2_with (first
   |(go_at_call 9;refine(uF.out).mono ?_;rintro e w1 ⟨rfl,hb⟩;have B1:=h_ hb;clear hb)
   |(go_at_call 10;refine(lA.out _ B1.out).mono ?_;rintro e w2 ⟨rfl,hb⟩;have B2:=h_ (B1.out.trans (hb.mono B1.out.size));clear hb)
   |((with_reducible refine dZ ?_);refine aE rfl 30 rfl _ _ (cD _) ?_;refine cN rfl (.tmp 8) (.tmp 17) rfl aD U0 rfl rfl rfl rfl rfl ?_;intro w3 h3 hb;have B3:=h_ (B2.out.trans (hb.mono B2.out.size));clear h3 hb)
   |fail)
  go_ret
  exact⟨rfl,B3.out⟩
 |some u =>
  rw[hb]at hba
  obtain⟨q,hq⟩:=ap (decide (t.size<=300))
  have lA:=h_ (show ∀W,Below w.heap.size w W->Calls prog 10 #[.string t] W fun e w'=>∃ pv,e=.returned (.tuple #[.agg (ah pv u),.bool q])∧w'.ownsRow W.heap.size 9 1 pv u.path.length (Strs u.path)∧Below W.heap.size W w' from by rw[hq];exact hba)
  have H8:=h_ (mD hb)
  have Oa:=h_ hb
  have HQ:=h_ hq
  clear hba hb hE hq
  go_enter func6,ntmps6
  go_upto_region 3 with(first
   |(go_at_call 9;refine(uF.out).mono ?_;rintro e w1 ⟨rfl,hb⟩;have B1:=h_ hb;clear hb)
   |(go_at_call 10;refine(lA.out _ B1.out).mono ?_;rintro e w2 ⟨pv,rfl,oo,hb⟩;have O2:=h_ oo;have B2:=h_ (B1.out.trans (hb.mono B1.out.size));clear hb oo)
   |((with_reducible refine dZ ?_);refine aE rfl 30 rfl _ _ (cD _) ?_;refine cN rfl (.tmp 8) (.tmp 17) rfl pv u H8.out (aS O2.out) rfl rfl rfl ?_;intro w3 h3 hb;have U3:=h_ h3;have B3:=h_ (B2.out.trans (hb.mono B2.out.size));have O3:=h_ (own_below' O2.out hb);clear h3 hb)
   |fail)
  obtain⟨g8,SX⟩:=ap (w2.heap.size)
  rw[<-SX]at U3 ⊢
  clear SX B1 B2 O2 uF lA
  cases q with
  |false =>
   go_wp2_with fail
   go_ret
   exact⟨rfl,B3.out⟩
  |true =>
   have htl:(ls t).length<=300:=by rw[de];exact of_decide_eq_true HQ.out.symm
   by_cases h3:300<L
   ·have h3':(300:Int)<(L:Int):=by omega
    go_wp2_with fail
    go_ret
    exact⟨rfl,B3.out⟩
   have h3':¬ (300:Int)<(L:Int):=by omega
   have hU:=pR (s:=ls t) (by omega) Oa.out
   have hdl:=ks _ l (ae _)
   obtain⟨s,hs⟩:=ap (jH l)
   rw[<-hs]at hdl
   have hsr:eH s=s:=by rw[hs,mT,Hw]
   obtain⟨sb,hsb⟩:=ap (bs s)
   have ID:=h_ (fun W (hb:Below w.heap.size w W)=>(show Calls prog 20 #[.slice av L cv] W fun e w'=>e=.returned (.string sb)∧Below W.heap.size W w' from by
    have h:=nW l (.slice av L cv) W ((HV.out.below hb).more hb.size) (by have:=HL.out;omega) (HE.out.below hb).1
    unfold JP at h
    rw[<-hs,show S s=.string sb by rw[hsb]]at h
    exact h))
   obtain⟨N,hN⟩:=ap (s.length)
   have hsz:sb.size=N:=by rw[hsb,aB,hN]
   have hN9:N<=900:=by have:=HL.out;omega
   have HES:=h_ (fun W=>(show Calls prog 21 #[.string sb] W fun e w'=>e=.returned (S (fh s))∧Below W.heap.size W w' from by rw[hsb];exact Cg s W (by omega)))
   have TG:=h_ (show(fh s).length<=4500 by have:=sU s;omega)
   obtain⟨R,hR⟩:=ap (rG kind u s)
   have Bg:=h_ (show R.items.length<=1000000000 by have:=Nj kind u s;rw[hR];omega)
   have HVE:=h_ (fun(h:∀ x∈s,x≠0)=>yv hsr h)
   have HIT:=h_ (fun(pv:Value) W (hb:Below w.heap.size w W) (hpv:Sl W.heap.size W pv (u.path.map S))=>(show Calls prog 11 #[.int .i64 kind,.agg (ah pv u),.string sb] W (eE W R)from by
    rw[hR,hsb]
    exact mY kind u pv s W H8.out hpv hU.b (by omega) (HE.out.below hb)))
   have u5:=h_ (fun(h:∀ x∈s,x≠0) (pv ev:Value) W (hb:Below w.heap.size w W) (hpv:Sl W.heap.size W pv (u.path.map S)) (hev:Sl W.heap.size W ev (Lib.byteCells (fh s)))=>(show Calls prog 19 #[.int .i64 kind,.agg (ah pv u),ev] W (eE W R)from by
    have h2:=jY kind u pv (fh s) ev W H8.out hpv hU.b hev (by have:=TG.out;omega) (HE.out.below hb)
    rw[yv hsr h,<-hR]at h2
    exact h2))
   have XS:=h_ (fun(h:∀ x∈s,x≠0) (ev:Value) W (hb:Below w.heap.size w W) (hev:Sl W.heap.size W ev (Lib.byteCells (fh s)))=>(show Calls prog 17 #[ev] W fun e w'=>e=.returned (.string sb)∧Below W.heap.size W w' from by
    have h2:=jc (fh s) ev W hev (by have:=TG.out;omega) (HE.out.below hb)
    rw[yv hsr h,show S s=.string sb by rw[hsb]]at h2
    exact h2))
   have RK:=h_ hsb
   have HN:=h_ hN
   clear hU hdl hs hsr hsb hN hR htl
   go_upto_region 6 with(first
    |(go_at_call 20;refine(ID.out _ B3.out).mono ?_;rintro e w4 ⟨rfl,hb⟩;have B4:=h_ (B3.out.trans (hb.mono B3.out.size));have U4:=h_ (U3.out.keep hb);have O4:=h_ (own_below' O3.out hb);clear hb)
    |fail)
   clear B3 U3 O3 ID
   go_wp2_with fail
   go_loopw [11] (fun iv wr=>∃ j:Nat,j<=N∧iv=.int .i64 j∧Hid (∀i (hi:i<s.length),i<j->s[i]≠0)∧wr=w4) (fun i _=>N-(intOf i).toNat)
   case atStart=>exact⟨0,aO _,rfl,h_ (fun i _ h=>absurd h (bE _)),rfl⟩
   case round =>
    obtain⟨j,hj,rfl,u4,hw⟩:=hrel
    subst wr
    by_cases hlt:j<N
    ·have hjl:j<s.length:=by have:=HN.out;omega
     have hjb:j<sb.size:=by omega
     have hx:=bV RK.out hjb hjl
     by_cases Lx:s[j]=0
     ·rw[Lx,show b2 0=0 from rfl]at hx
      clear Lx
      go_wp2_with fail
      go_ret
      exact⟨rfl,B4.out⟩
     have Tj:(b2 s[j]==0)=false:=by simp;exact fun e=>Lx (dz e)
     have rr:=h_ (show ∀i (hi:i<s.length),i<j+1->s[i]≠0 from fun i hi h=>by
      by_cases he:i=j
      ·subst he;exact Lx
      exact u4.out i hi (by omega))
     obtain⟨c,hc⟩:=ap (b2 s[j])
     rw[<-hc]at hx Tj
     have Wg:¬ c=0:=by simpa using Tj
     clear hc Lx
     go_wp2_with fail
     go_roundw
     case rel=>exact⟨j+1,by omega,by go_num,rr,by trivial⟩
     case measure=>simp[intOf];omega
    obtain rfl:j=N:=by omega
    have hz:∀ x∈s,x≠0:=fun x hx=>by
     obtain⟨i,hi,rfl⟩:=gY.mp hx
     exact u4.out i hi (by rw[HN.out];exact hi)
    have HZ:=h_ hz
    clear hz u4 HVE
    go_upto_region 12 with(first
     |(go_at_call 21;refine(HES.out _).mono ?_;rintro e w5 ⟨rfl,hb⟩;have B5:=h_ (B4.out.trans (hb.mono B4.out.size));have U5:=h_ (U4.out.keep hb);have O5:=h_ (own_below' O4.out hb);clear hb;obtain⟨ev,w6,hr6,hs6,_,hb6⟩:=yl (fh s) w5 (by have:=TG.out;unfold maxLen;omega);have R6:=h_ hr6;have S6:=h_ hs6;have BZ:=h_ (B5.out.trans (hb6.mono B5.out.size));have UZ:=h_ (U5.out.keep hb6);have OZ:=h_ (own_below' O5.out hb6);clear hr6 hs6 hb6)
     |((with_reducible refine dZ ?_);refine sw rfl 9 50 (.tmp 41) rfl (S (fh s)) rfl R6.out ?_)
     |fail)
    obtain⟨wz,hwz⟩:=ap (w6)
    rw[<-hwz]at S6 BZ UZ OZ ⊢
    clear hwz R6 B4 B5 U4 U5 O4 O5 HES
    have Ea:=h_ (fun W (hb:Below wz.heap.size wz W)=>XS.out HZ.out ev W (BZ.out.trans (hb.mono BZ.out.size)) ((S6.out.below hb).more hb.size))
    have uK:=h_ (fun W (hb:Below wz.heap.size wz W)=>u5.out HZ.out pv ev W (BZ.out.trans (hb.mono BZ.out.size)) (((Sl.bL (cI OZ.out)).below hb).more hb.size) ((S6.out.below hb).more hb.size))
    have yL:=h_ (fun W (hb:Below wz.heap.size wz W)=>HIT.out pv W (BZ.out.trans (hb.mono BZ.out.size)) (((Sl.bL (cI OZ.out)).below hb).more hb.size))
    have u7:=h_ (show(prog.info? 30).map (·.size)=some (ah pv u).size by rw[eL H8.out];exact dq)
    clear XS u5 HIT
    refine wp_region_held_drew (S:=fun W=>Below wz.heap.size wz W) (by kernel_rfl) (by first|exact aJ (aG _)|exact D4.out|exact D3.out|exact D2.out|exact D1.out) (fun hHeld=>?_)
    refine tq 0 rfl ?_ (fun wS hSw=>?_) ?_
    rotate_left
    ·(try dsimp only at hSw);go_simp;first|done|with_reducible rfl
    try simp only[Act.put,aK,aL,aM]
    refine tq 1 rfl ?_ (fun wS hSw=>?_) ?_
    rotate_left
    ·(try dsimp only at hSw);go_simp;first|done|with_reducible rfl
    try simp only[Act.put,aK,aL,aM]
    refine tq 2 rfl ?_ (fun wS hSw=>?_) ?_
    rotate_left
    ·(try dsimp only at hSw);go_simp;first|done|with_reducible rfl
    try simp only[Act.put,aK,aL,aM]
    refine tq 4 rfl ?_ (fun wS hSw=>?_) ?_
    rotate_left
    ·(try dsimp only at hSw);go_simp;first|done|with_reducible rfl
    try simp only[Act.put,aK,aL,aM]
    refine rn 3 (by kernel_rfl) rfl (by rfl) (fun K hK=>?_)
    go_simp
    refine(Ea.out _ hHeld).mono ?_
    rintro e w5 ⟨rfl,hb⟩
    have D1:=h_ (hHeld.trans (hb.mono hHeld.size))
    clear hb
    refine hK.out _ _ ?_ (fun hHeld=>?_)
    ·first|exact aJ (aG _)|exact D4.out|exact D3.out|exact D2.out|exact D1.out
    clear hK K
    try simp only[Act.put,aK,aL,aM]
    refine tq 5 rfl ?_ (fun wS hSw=>?_) ?_
    rotate_left
    ·(try dsimp only at hSw);go_simp;first|done|with_reducible rfl
    try simp only[Act.put,aK,aL,aM]
    refine tq 6 rfl ?_ (fun wS hSw=>?_) ?_
    rotate_left
    ·(try dsimp only at hSw);go_simp;first|done|with_reducible rfl
    try simp only[Act.put,aK,aL,aM]
    refine tq 7 rfl ?_ (fun wS hSw=>?_) ?_
    rotate_left
    ·(try dsimp only at hSw);go_simp;first|done|with_reducible rfl
    try simp only[Act.put,aK,aL,aM]
    refine tq 8 rfl ?_ (fun wS hSw=>?_) ?_
    rotate_left
    ·(try dsimp only at hSw);go_simp;first|done|with_reducible rfl
    try simp only[Act.put,aK,aL,aM]
    refine tq 9 rfl ?_ (fun wS hSw=>?_) ?_
    rotate_left
    ·(try dsimp only at hSw)
     refine cq 30 (.tmp 8) ?_ g8 (ah pv u) _ underlying30 rfl u7.out ?_ ?_
     ·rfl
     ·rfl
     exact UZ.out.keep hSw
    try simp only[Act.put,aK,aL,aM]
    refine tq 10 rfl ?_ (fun wS hSw=>?_) ?_
    rotate_left
    ·(try dsimp only at hSw);go_simp;first|done|with_reducible rfl
    try simp only[Act.put,aK,aL,aM]
    refine tq 12 rfl ?_ (fun wS hSw=>?_) ?_
    rotate_left
    ·(try dsimp only at hSw);go_simp;first|done|with_reducible rfl
    try simp only[Act.put,aK,aL,aM]
    refine tq 13 rfl ?_ (fun wS hSw=>?_) ?_
    rotate_left
    ·(try dsimp only at hSw)
     refine cq 30 (.tmp 8) ?_ g8 (ah pv u) _ underlying30 rfl u7.out ?_ ?_
     ·rfl
     ·rfl
     exact UZ.out.keep hSw
    try simp only[Act.put,aK,aL,aM]
    refine tq 14 rfl ?_ (fun wS hSw=>?_) ?_
    rotate_left
    ·(try dsimp only at hSw);go_simp;first|done|with_reducible rfl
    try simp only[Act.put,aK,aL,aM]
    refine rn 11 (by kernel_rfl) rfl (by rfl) (fun K hK=>?_)
    go_simp
    refine(uK.out _ hHeld).mono ?_
    rintro e w6 ⟨va,rfl,Mh,hb⟩
    have D2:=h_ (hHeld.trans (hb.mono hHeld.size));have IA:=h_ Mh
    clear hb Mh
    refine hK.out _ _ ?_ (fun hHeld=>?_)
    ·first|exact aJ (aG _)|exact D4.out|exact D3.out|exact D2.out|exact D1.out
    clear hK K
    try simp only[Act.put,aK,aL,aM]
    refine rn 15 (by kernel_rfl) rfl (by rfl) (fun K hK=>?_)
    go_simp
    refine(yL.out _ hHeld).mono ?_
    rintro e w7 ⟨vb,rfl,Mi,hb⟩
    have D3:=h_ (hHeld.trans (hb.mono hHeld.size));have IA2:=h_ (IA.out.below hb);have IB2:=h_ Mi
    clear hb Mi
    refine hK.out _ _ ?_ (fun hHeld=>?_)
    ·first|exact aJ (aG _)|exact D4.out|exact D3.out|exact D2.out|exact D1.out
    clear hK K
    try simp only[Act.put,aK,aL,aM]
    refine rn 16 (by kernel_rfl) rfl (by rfl) (fun K hK=>?_)
    go_simp
    refine(lq R va vb _ _ _ IA2.out IB2.out Bg.out).mono ?_
    rintro e w8 ⟨rfl,hb⟩
    have D4:=h_ (hHeld.trans (hb.mono hHeld.size))
    clear hb
    refine hK.out _ _ ?_ (fun hHeld=>?_)
    ·first|exact aJ (aG _)|exact D4.out|exact D3.out|exact D2.out|exact D1.out
    clear hK K
    try simp only[Act.put,aK,aL,aM]
    refine tq 17 rfl ?_ (fun wS hSw=>?_) ?_
    rotate_left
    ·(try dsimp only at hSw);go_simp;first|done|with_reducible rfl
    try simp only[Act.put,aK,aL,aM]
    refine tq 18 rfl ?_ (fun wS hSw=>?_) ?_
    rotate_left
    ·(try dsimp only at hSw);go_simp;first|done|with_reducible rfl
    try simp only[Act.put,aK,aL,aM]
    refine wpAnyH_done (by kernel_rfl) ?_ _
    go_wp2_with fail
    go_ret
    exact⟨rfl,BZ.out.trans (D4.out.mono BZ.out.size)⟩
end Go.Proofs.YtmndlfglgcioeaaGreatDoor
