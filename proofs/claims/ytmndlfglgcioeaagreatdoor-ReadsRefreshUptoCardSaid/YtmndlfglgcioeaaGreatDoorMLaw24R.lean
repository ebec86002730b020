/- The walk of ReadsRefresh, for texts up to 1048576 bytes. -/
import Derived.Test.YtmndlfglgcioeaaGreatDoorGRdsL
set_option maxHeartbeats 40000000
namespace Go.Proofs.YtmndlfglgcioeaaGreatDoor
open Tryz
open Go.RowKit
set_option maxRecDepth 10000
theorem readsRefresh_walk (t:ByteArray) (n:Int) (s:ByteArray) (w:World) (_:t.size<=maxLen) (hn:(Lit.int .i64 n).wf=true) (_:s.size<=maxLen) (ub:t.size<=1048576) (ub2:s.size<=1048576) (hE:Env w) :
  Calls prog 4 #[.string t,.int .i64 n,.string s] w fun e w'=>e=.returned (.bool true)∧Below w.heap.size w w':=by
 have uF:=h_ (ii w hE)
 have hba:=fun(W:World) (hW:Below w.heap.size w W)=>kP t W ub (hE.below hW)
 have HE:=h_ hE
 cases hb:gv (ls t)with
 |none =>
  rw[hb]at hba
  have lA:=h_ (show ∀W,Below w.heap.size w W->Calls prog 10 #[.string t] W fun e w'=>e=.returned (.tuple #[.agg (ah aD U0),.bool false])∧Below W.heap.size W w' from hba)
  clear hba hb hE hn
  go_enter func4,ntmps4
  go_wp2_with (first
   |(go_at_call 9;refine(uF.out).mono ?_;rintro e w1 ⟨rfl,hb⟩;have B1:=h_ hb;clear hb)
   |(go_at_call 10;refine(lA.out _ B1.out).mono ?_;rintro e w2 ⟨rfl,hb⟩;have B2:=h_ (B1.out.trans (hb.mono B1.out.size));clear hb)
   |((with_reducible refine dZ ?_);refine aE rfl 30 rfl _ _ (cD _) ?_;refine cN rfl (.tmp 8) (.tmp 20) rfl aD U0 rfl rfl rfl rfl rfl ?_;intro w3 h3 hb;have B3:=h_ (B2.out.trans (hb.mono B2.out.size));clear h3 hb)
   |fail)
  go_ret
  exact⟨rfl,B3.out⟩
 |some u =>
  rw[hb]at hba
  obtain⟨q,hq⟩:=ap (decide (t.size<=300))
  have lA:=h_ (show ∀W,Below w.heap.size w W->Calls prog 10 #[.string t] W fun e w'=>∃ pv,e=.returned (.tuple #[.agg (ah pv u),.bool q])∧w'.ownsRow W.heap.size 9 1 pv u.path.length (Strs u.path)∧Below W.heap.size W w' from by rw[hq];exact hba)
  have H8:=h_ (mD hb)
  have Oa:=h_ hb
  have HQ:=h_ hq
  obtain⟨N,hN⟩:=ap (s.size)
  have hsz:s.size=N:=hN.symm
  clear hba hb hE hq
  go_enter func4,ntmps4
  go_upto_region 3 with(first
   |(go_at_call 9;refine(uF.out).mono ?_;rintro e w1 ⟨rfl,hb⟩;have B1:=h_ hb;clear hb)
   |(go_at_call 10;refine(lA.out _ B1.out).mono ?_;rintro e w2 ⟨pv,rfl,oo,hb⟩;have O2:=h_ oo;have B2:=h_ (B1.out.trans (hb.mono B1.out.size));clear hb oo)
   |((with_reducible refine dZ ?_);refine aE rfl 30 rfl _ _ (cD _) ?_;refine cN rfl (.tmp 8) (.tmp 20) rfl pv u H8.out (aS O2.out) rfl rfl rfl ?_;intro w3 h3 hb;have U3:=h_ h3;have B3:=h_ (B2.out.trans (hb.mono B2.out.size));have O3:=h_ (own_below' O2.out hb);clear h3 hb)
   |fail)
  obtain⟨g8,SX⟩:=ap (w2.heap.size)
  rw[<-SX]at U3 ⊢
  clear SX B1 B2 O2 uF lA
  cases q with
  |false =>
   go_wp2_with fail
   go_ret
   exact⟨rfl,B3.out⟩
  |true =>
   have htl:(ls t).length<=300:=by rw[de];exact of_decide_eq_true HQ.out.symm
   by_cases h3:300<N
   ·have h3':(300:Int)<(N:Int):=by omega
    clear hN
    go_wp2_with fail
    go_ret
    exact⟨rfl,B3.out⟩
   have h3':¬ (300:Int)<(N:Int):=by omega
   by_cases hneg:n<0
   ·clear hN
    go_wp2_with fail
    go_ret
    exact⟨rfl,B3.out⟩
   obtain⟨k,rfl⟩:∃ k:Nat,n=k:=⟨n.toNat,by omega⟩
   have hk:k<=9223372036854775807:=by
    have:=(bounds_i64 hn).2
    omega
   have hneg':¬ ((k:Nat):Int)<0:=by omega
   have hsl:(ls s).length<=300:=by rw[de];omega
   obtain⟨l,hl⟩:=ap (ls s)
   have ti:s=bs l:=by rw[hl,nJ]
   rw[<-hl]at hsl
   obtain⟨d,hd⟩:=ap (Lib.decDigits k)
   have hdl:d.length<=19:=by rw[hd];exact jn 18 k (by omega)
   obtain⟨db,hdb⟩:=ap (bs d)
   obtain⟨c1,hc1⟩:=ap (bs (d++qB))
   obtain⟨c2,hc2⟩:=ap (bs (d++(qB++l)))
   have SU:db++(⟨#[59,117,114,108,61,39]⟩:ByteArray)=c1:=by rw[hdb,hc1,<-gO];rfl
   have SV:c1++s=c2:=by rw[hc1,ti,gO,hc2,aX]
   have hds:db.size<=19:=by rw[hdb,aB];exact hdl
   have hcs:c1.size<=25:=by rw[hc1,aB,af];have:qB.length=6:=rfl;omega
   have ZI:¬ 9223372036854775807<db.size+6:=by omega
   have ZJ:¬ 9223372036854775807<c1.size+N:=by omega
   have hU:=pR (s:=ls t) (by omega) Oa.out
   have FR:=h_ (fun W=>(show Calls prog 16 #[.int .i64 (k:Int)] W fun e w'=>e=.returned (.string db)∧Below W.heap.size W w' from by rw[hdb,hd];exact v8 k W hk))
   have HI1:=h_ (fun(pv:Value) W (hb:Below w.heap.size w W) (hpv:Sl W.heap.size W pv (u.path.map S))=>(show Calls prog 11 #[.int .i64 3,.agg (ah pv u),.string db] W (eE W ⟨[⟨true,u,[]⟩],d⟩)from by
    have h:=mY 3 u pv d W H8.out hpv hU.b (by omega) (HE.out.below hb)
    rw[hd,Ni,<-hd,<-hdb]at h
    exact h))
   obtain⟨R2,hR2⟩:=ap (rG 3 u (d++(qB++l)))
   have HI2:=h_ (fun(pv:Value) W (hb:Below w.heap.size w W) (hpv:Sl W.heap.size W pv (u.path.map S))=>(show Calls prog 11 #[.int .i64 3,.agg (ah pv u),.string c2] W (eE W R2)from by
    rw[hR2,hc2]
    exact mY 3 u pv _ W H8.out hpv hU.b (by rw[af,af];have:qB.length=6:=rfl;omega) (HE.out.below hb)))
   have yM:=h_ (fun(pv:Value) W (hb:Below w.heap.size w W) (hpv:Sl W.heap.size W pv (u.path.map S))=>(show Calls prog 12 #[.agg (ah pv u),.string s] W fun e w' =>
     ∃pj,e=.returned (.tuple #[.agg (ah pj (dG u l []).url),.bool (dG u l []).right])∧w'.ownsRow W.heap.size 9 1 pj (dG u l []).url.path.length (Strs (dG u l []).url.path)∧Below W.heap.size W w' from by
    rw[ti]
    exact CS u pv l W H8.out hpv hU.b (by omega) (HE.out.below hb)))
   have HR2:=h_ (fun(h:∀ x∈l,x≠39)=>(show R2=⟨[dG u l []],d⟩from by rw[hR2,hd];exact Nl u k h))
   have Oh:=h_ (CP htl hsl Oa.out [])
   have WO:=h_ (show u.path.length<=1024000000 by have:=hU.bs.1;omega)
   have Xy:=h_ hdb
   have DX:=h_ (show N=l.length by rw[<-hsz,ti,aB])
   have HS:=h_ ti
   clear hn hk hsl ti hl hd hdl hdb hc1 hc2 hR2 hU htl hN
   go_upto_region 7 with(first
    |(go_at_call 16;refine(FR.out _).mono ?_;rintro e w4 ⟨rfl,hb⟩;have B4:=h_ (B3.out.trans (hb.mono B3.out.size));have U4:=h_ (U3.out.keep hb);have O4:=h_ (own_below' O3.out hb);clear hb)
    |((with_reducible refine dZ ?_);refine dB (by rfl) (.tmp 8) rfl _ pv u H8.out rfl U4.out ?_)
    |(go_at_call 11;refine(HI1.out pv _ B4.out (Sl.bL (cI O4.out))).mono ?_;rintro e w5 ⟨va,rfl,ir,hb⟩;have FT:=h_ ir;have B5:=h_ (B4.out.trans (hb.mono B4.out.size));have U5:=h_ (U4.out.keep hb);have O5:=h_ (own_below' O4.out hb);clear hb ir)
    |((with_reducible refine dZ ?_);refine aE rfl 35 rfl _ _ (ji _) ?_;refine re rfl (.tmp 11) (.tmp 38) rfl va d (dU.one' FT.out) rfl rfl rfl ?_;intro w6 h6 hb;have W1:=h_ h6;have B6:=h_ (B5.out.trans (hb.mono B5.out.size));have U6:=h_ (U5.out.keep hb);have O6:=h_ (own_below' O5.out hb);have OY:=h_ (FT.out.below hb);clear hb h6)
    |fail)
   obtain⟨ga,hga⟩:=ap (w5.heap.size)
   rw[<-hga]at W1 ⊢
   clear hga B3 B4 B5 U3 U4 U5 O3 O4 O5 FT FR HI1
   go_upto_region 8 with(first
    |((with_reducible refine dZ ?_);refine dB (by rfl) (.tmp 8) rfl _ pv u H8.out rfl U6.out ?_)
    |(go_at_call 11;refine(HI2.out pv _ B6.out (Sl.bL (cI O6.out))).mono ?_;rintro e w7 ⟨vb,rfl,ir,hb⟩;have JR7:=h_ ir;have B7:=h_ (B6.out.trans (hb.mono B6.out.size));have U7:=h_ (U6.out.keep hb);have O7:=h_ (own_below' O6.out hb);have X9:=h_ (W1.out.keep hb);have XT:=h_ (OY.out.below hb);clear hb ir)
    |((with_reducible refine dZ ?_);refine aE rfl 35 rfl _ _ (ji _) ?_;refine re rfl (.tmp 12) (.tmp 44) rfl vb R2.delay (dU.one' JR7.out) rfl rfl rfl ?_;intro w8 h8 hb;have RB8:=h_ h8;have B8:=h_ (B7.out.trans (hb.mono B7.out.size));have U8:=h_ (U7.out.keep hb);have O8:=h_ (own_below' O7.out hb);have Ya:=h_ (X9.out.keep hb);have IK:=h_ (XT.out.below hb);have WW:=h_ (JR7.out.below hb);clear hb h8)
    |fail)
   obtain⟨gb,hgb⟩:=ap (w7.heap.size)
   rw[<-hgb]at RB8 ⊢
   clear hgb B6 B7 U6 U7 O6 O7 OY XT JR7 W1 X9 HI2 SU SV ZI ZJ hds hcs
   go_wp2_with fail
   go_loopw [13] (fun iv wr=>∃ j:Nat,j<=N∧iv=.int .i64 j∧Hid (∀i (hi:i<l.length),i<j->l[i]≠39)∧wr=w8) (fun i _=>N-(intOf i).toNat)
   case atStart=>exact⟨0,aO _,rfl,h_ (fun i _ h=>absurd h (bE _)),rfl⟩
   case round =>
    obtain⟨j,hj,rfl,u4,hw⟩:=hrel
    subst wr
    by_cases hlt:j<N
    ·have hjl:j<l.length:=by have:=DX.out;omega
     have hjb:j<s.size:=by omega
     have hx:=bV HS.out hjb hjl
     by_cases Lx:l[j]=39
     ·rw[Lx,show b2 39=39 from rfl]at hx
      clear Lx
      go_wp2_with fail
      go_ret
      exact⟨rfl,B8.out⟩
     have Tj:(b2 l[j]==39)=false:=by simp;exact fun e=>Lx (dz e)
     have rr:=h_ (show ∀i (hi:i<l.length),i<j+1->l[i]≠39 from fun i hi h=>by
      by_cases he:i=j
      ·subst he;exact Lx
      exact u4.out i hi (by omega))
     obtain⟨c,hc⟩:=ap (b2 l[j])
     rw[<-hc]at hx Tj
     have Wg:¬ c=39:=by simpa using Tj
     clear hc Lx
     go_wp2_with fail
     go_roundw
     case rel=>exact⟨j+1,by omega,by go_num,rr,by trivial⟩
     case measure=>simp[intOf];omega
    obtain rfl:j=N:=by omega
    have hr2:=HR2.out (fun x hx=>by
     obtain⟨i,hi,rfl⟩:=gY.mp hx
     exact u4.out i hi (by rw[DX.out];exact hi))
    obtain⟨it,hit⟩:=ap (dG u l [])
    rw[<-hit]at hr2 yM Oh
    subst hr2
    clear HR2 hit u4 HS
    go_upto_region 14 with(first
     |((with_reducible refine dZ ?_);refine dB (by rfl) (.tmp 8) rfl _ pv u H8.out rfl U8.out ?_)
     |(go_at_call 12;refine(yM.out pv _ B8.out (Sl.bL (cI O8.out))).mono ?_;rintro e w9 ⟨pj,rfl,oj,hb⟩;have WZ:=h_ oj;have B9:=h_ (B8.out.trans (hb.mono B8.out.size));have U9:=h_ (U8.out.keep hb);have O9:=h_ (own_below' O8.out hb);have Yb:=h_ (Ya.out.keep hb);have W3:=h_ (RB8.out.keep hb);have FU:=h_ (IK.out.below hb);have XW:=h_ (WW.out.below hb);clear hb oj)
     |((with_reducible refine dZ ?_);refine aE rfl 30 rfl _ _ (cD _) ?_;refine cN rfl (.tmp 14) (.tmp 60) rfl pj it.url Oh.out.six (aS WZ.out) rfl rfl rfl ?_;intro wz hz hb;have UJ:=h_ hz;have BZ:=h_ (B9.out.trans (hb.mono B9.out.size));have UZ:=h_ (U9.out.keep hb);have OZ:=h_ (own_below' O9.out hb);have OJ:=h_ (own_below' WZ.out hb);have RA:=h_ (Yb.out.keep hb);have RB:=h_ (W3.out.keep hb);have IA:=h_ (FU.out.below hb);have IB:=h_ (XW.out.below hb);clear hb hz)
     |fail)
    obtain⟨gj,hgj⟩:=ap (w9.heap.size)
    rw[<-hgj]at UJ ⊢
    clear hgj yM B8 B9 U8 U9 O8 O9 WZ Ya Yb RB8 W3 IK FU WW XW
    obtain⟨ia,pa,ea,_,Ym⟩:=IA.out.open (by simp)
    obtain⟨ib,pb,eb,_,Yn⟩:=IB.out.open (by simp)
    replace ea:va=.slice (some ⟨ia,0,none⟩) 1 pa:=ea
    replace eb:vb=.slice (some ⟨ib,0,none⟩) 1 pb:=eb
    obtain⟨qa,ra,ca,CM⟩:=Ym 0 (nH _)
    obtain⟨qb,rb,cb,GT⟩:=Yn 0 (nH _)
    obtain⟨is,his⟩:=ap (it.right)
    obtain⟨uj,Cy⟩:=ap (it.url)
    have hcl:∀ {W:World} {g j:Nat} {x:Value},Below wz.heap.size wz W->wz.cell? ⟨g,j,none⟩=some x->W.cell? ⟨g,j,none⟩=some x:=fun hb hc=>(hb.cell (p:=⟨_,_,none⟩) (World.block_lt_of_cell? _ _ hc)).trans hc
    have iU:=h_ (fun(W:World) (hb:Below wz.heap.size wz W)=>(show W.cell? ⟨ga,0,none⟩=some (.slice (some ⟨ia,0,none⟩) 1 pa)∧W.cell? ⟨ga,1,none⟩=some (.string db)∧W.cell? ⟨gb,0,none⟩=some (.slice (some ⟨ib,0,none⟩) 1 pb)∧W.cell? ⟨gb,1,none⟩=some (.string db)∧W.cell? ⟨ia,0,none⟩=some (.bool true)∧W.cell? ⟨ib,0,none⟩=some (.bool is)from
     ⟨hcl hb (by rw[<-ea];exact RA.out.ak rfl),hcl hb (by rw[Xy.out];exact RA.out.ak rfl),hcl hb (by rw[<-eb];exact RB.out.ak rfl),hcl hb (by rw[Xy.out];exact RB.out.ak rfl),hcl hb (ca 0 _ gp),hcl hb (by rw[his];exact cb 0 _ gp)⟩))
    have HUA:=h_ (fun(W:World) (hb:Below wz.heap.size wz W)=>(show W.rangeAt ia 1 (bH qa u)from fun j x hj=>hcl hb (by have:=ca (1+j) _ (ot hj);simpa using this)))
    have HUB:=h_ (fun(W:World) (hb:Below wz.heap.size wz W)=>(show W.rangeAt ib 1 (bH qb uj)from fun j x hj=>hcl hb (by rw[Cy]at hj;have:=cb (1+j) _ (ot hj);simpa using this)))
    have u6:=h_ (fun(W:World) (hb:Below wz.heap.size wz W)=>(show Sl W.heap.size W qa (u.path.map S)from((Sl.bL (cI CM.path)).below hb).more hb.size))
    have RK:=h_ (fun(W:World) (hb:Below wz.heap.size wz W)=>(show Sl W.heap.size W qb (uj.path.map S)from by rw[Cy];exact((Sl.bL (cI GT.path)).below hb).more hb.size))
    have WR:=h_ (fun(W:World) (hb:Below wz.heap.size wz W)=>(show Sl W.heap.size W pv (u.path.map S)from((Sl.bL (cI OZ.out)).below hb).more hb.size))
    have HSJ:=h_ (fun(W:World) (hb:Below wz.heap.size wz W)=>(show Sl W.heap.size W pj (uj.path.map S)from by rw[Cy];exact((Sl.bL (cI OJ.out)).below hb).more hb.size))
    have J8:=h_ (show uj.host.six.length=8 by rw[Cy];exact Oh.out.six)
    have TM:=h_ (show uj.path.length<=1024000000 by rw[Cy];have:=Oh.out.bs.1;omega)
    have u7:=h_ (show(prog.info? 30).map (·.size)=some (ah pv u).size by rw[eL H8.out];exact dq)
    have TY:=h_ (show(prog.info? 30).map (·.size)=some (ah pj uj).size by rw[eL J8.out];exact dq)
    have HUL:=h_ (show(prog.info? 30).map (·.size)=some (bH qa u).length by rw[gg H8.out];exact dq)
    have a2N:=h_ (show(prog.info? 30).map (·.size)=some (bH qb uj).length by rw[gg J8.out];exact dq)
    rw[<-Cy]at UJ ⊢
    rw[<-his]
    clear Ym Yn ca cb CM GT hcl ea eb RA RB IA IB OZ OJ his Cy Oh
    obtain⟨f1,f2,f3,f4,f5,f6⟩:=iU.out wz (Below.refl _ _)
    clear f2 f4 f5 f6
    go_upto_region 16 with fail
    clear f1 f3
    refine wp_region_held_drew (S:=fun W=>Below wz.heap.size wz W) (by kernel_rfl) (by first|exact aJ (aG _)|exact D2.out|exact D1.out) (fun hHeld=>?_)
    refine tq 0 rfl ?_ (fun wS hSw=>?_) ?_
    rotate_left
    ·(try dsimp only at hSw);go_simp;first|done|with_reducible rfl
    try simp only[Act.put,aK,aL,aM]
    refine tq 1 rfl ?_ (fun wS hSw=>?_) ?_
    rotate_left
    ·(try dsimp only at hSw);go_simp;first|done|with_reducible rfl
    try simp only[Act.put,aK,aL,aM]
    refine tq 2 rfl ?_ (fun wS hSw=>?_) ?_
    rotate_left
    ·(try dsimp only at hSw);go_simp;first|done|with_reducible rfl
    try simp only[Act.put,aK,aL,aM]
    refine tq 3 rfl ?_ (fun wS hSw=>?_) ?_
    rotate_left
    ·(try dsimp only at hSw)
     refine aF 9 (.tmp 74) ?_ ga 1 (.string db) _ underlying9 rfl ?_ ?_
     ·rfl
     ·rfl
     exact(iU.out _ hSw).2.1
    try simp only[Act.put,aK,aL,aM]
    refine tq 4 rfl ?_ (fun wS hSw=>?_) ?_
    rotate_left
    ·(try dsimp only at hSw);go_simp;first|done|with_reducible rfl
    try simp only[Act.put,aK,aL,aM]
    refine tq 5 rfl ?_ (fun wS hSw=>?_) ?_
    rotate_left
    ·(try dsimp only at hSw);go_simp;first|done|with_reducible rfl
    try simp only[Act.put,aK,aL,aM]
    refine tq 6 rfl ?_ (fun wS hSw=>?_) ?_
    rotate_left
    ·(try dsimp only at hSw);go_simp;first|done|with_reducible rfl
    try simp only[Act.put,aK,aL,aM]
    refine tq 7 rfl ?_ (fun wS hSw=>?_) ?_
    rotate_left
    ·(try dsimp only at hSw);go_simp;first|done|with_reducible rfl
    try simp only[Act.put,aK,aL,aM]
    refine tq 8 rfl ?_ (fun wS hSw=>?_) ?_
    rotate_left
    ·(try dsimp only at hSw);go_simp;first|done|with_reducible rfl
    try simp only[Act.put,aK,aL,aM]
    refine tq 9 rfl ?_ (fun wS hSw=>?_) ?_
    rotate_left
    ·(try dsimp only at hSw)
     refine aF 9 (.tmp 80) ?_ gb 1 (.string db) _ underlying9 rfl ?_ ?_
     ·rfl
     ·rfl
     exact(iU.out _ hSw).2.2.2.1
    try simp only[Act.put,aK,aL,aM]
    refine tq 10 rfl ?_ (fun wS hSw=>?_) ?_
    rotate_left
    ·(try dsimp only at hSw);go_simp;first|done|with_reducible rfl
    try simp only[Act.put,aK,aL,aM]
    refine tq 11 rfl ?_ (fun wS hSw=>?_) ?_
    rotate_left
    ·(try dsimp only at hSw);go_simp;first|done|with_reducible rfl
    try simp only[Act.put,aK,aL,aM]
    refine tq 12 rfl ?_ (fun wS hSw=>?_) ?_
    rotate_left
    ·(try dsimp only at hSw);go_simp;first|done|with_reducible rfl
    try simp only[Act.put,aK,aL,aM]
    refine tq 13 rfl ?_ (fun wS hSw=>?_) ?_
    rotate_left
    ·(try dsimp only at hSw);go_simp;first|done|with_reducible rfl
    try simp only[Act.put,aK,aL,aM]
    refine tq 14 rfl ?_ (fun wS hSw=>?_) ?_
    rotate_left
    ·(try dsimp only at hSw);go_simp;first|done|with_reducible rfl
    try simp only[Act.put,aK,aL,aM]
    refine tq 15 rfl ?_ (fun wS hSw=>?_) ?_
    rotate_left
    ·(try dsimp only at hSw)
     refine aF 33 (.tmp 86) ?_ ga 0 (.slice (some ⟨ia,0,none⟩) 1 pa) _ underlying33 rfl ?_ ?_
     ·rfl
     ·rfl
     exact(iU.out _ hSw).1
    try simp only[Act.put,aK,aL,aM]
    refine tq 16 rfl ?_ (fun wS hSw=>?_) ?_
    rotate_left
    ·(try dsimp only at hSw);go_simp;first|done|with_reducible rfl
    try simp only[Act.put,aK,aL,aM]
    refine tq 17 rfl ?_ (fun wS hSw=>?_) ?_
    rotate_left
    ·(try dsimp only at hSw);go_simp;first|done|with_reducible rfl
    try simp only[Act.put,aK,aL,aM]
    refine tq 18 rfl ?_ (fun wS hSw=>?_) ?_
    rotate_left
    ·(try dsimp only at hSw)
     refine aF 4 (.tmp 89) ?_ ia 0 (.bool true) _ underlying4 rfl ?_ ?_
     ·rfl
     ·rfl
     exact(iU.out _ hSw).2.2.2.2.1
    try simp only[Act.put,aK,aL,aM]
    refine tq 19 rfl ?_ (fun wS hSw=>?_) ?_
    rotate_left
    ·(try dsimp only at hSw);go_simp;first|done|with_reducible rfl
    try simp only[Act.put,aK,aL,aM]
    refine tq 20 rfl ?_ (fun wS hSw=>?_) ?_
    rotate_left
    ·(try dsimp only at hSw);go_simp;first|done|with_reducible rfl
    try simp only[Act.put,aK,aL,aM]
    refine tq 21 rfl ?_ (fun wS hSw=>?_) ?_
    rotate_left
    ·(try dsimp only at hSw);go_simp;first|done|with_reducible rfl
    try simp only[Act.put,aK,aL,aM]
    refine tq 22 rfl ?_ (fun wS hSw=>?_) ?_
    rotate_left
    ·(try dsimp only at hSw)
     refine aF 33 (.tmp 93) ?_ ga 0 (.slice (some ⟨ia,0,none⟩) 1 pa) _ underlying33 rfl ?_ ?_
     ·rfl
     ·rfl
     exact(iU.out _ hSw).1
    try simp only[Act.put,aK,aL,aM]
    refine tq 23 rfl ?_ (fun wS hSw=>?_) ?_
    rotate_left
    ·(try dsimp only at hSw);go_simp;first|done|with_reducible rfl
    try simp only[Act.put,aK,aL,aM]
    refine tq 24 rfl ?_ (fun wS hSw=>?_) ?_
    rotate_left
    ·(try dsimp only at hSw);go_simp;first|done|with_reducible rfl
    try simp only[Act.put,aK,aL,aM]
    refine tq 25 rfl ?_ (fun wS hSw=>?_) ?_
    rotate_left
    ·(try dsimp only at hSw)
     refine dM 30 (.tmp 96) ?_ ia 1 (bH qa u) _ underlying30 rfl HUL.out ?_ ?_
     ·rfl
     ·rfl
     exact HUA.out _ hSw
    try simp only[Act.put,aK,aL,aM]
    refine tq 26 rfl ?_ (fun wS hSw=>?_) ?_
    rotate_left
    ·(try dsimp only at hSw)
     refine cq 30 (.tmp 8) ?_ g8 (ah pv u) _ underlying30 rfl u7.out ?_ ?_
     ·rfl
     ·rfl
     exact UZ.out.keep hSw
    try simp only[Act.put,aK,aL,aM]
    refine rn 27 (by kernel_rfl) rfl (by rfl) (fun K hK=>?_)
    go_simp
    refine(jw u qa pv _ H8.out WO.out (u6.out _ hHeld) (WR.out _ hHeld)).mono ?_
    rintro e w19 ⟨rfl,hb⟩
    have D1:=h_ (hHeld.trans (hb.mono hHeld.size))
    clear hb
    refine hK.out _ _ ?_ (fun hHeld=>?_)
    ·first|exact aJ (aG _)|exact D2.out|exact D1.out
    clear hK K
    try simp only[Act.put,aK,aL,aM]
    refine tq 28 rfl ?_ (fun wS hSw=>?_) ?_
    rotate_left
    ·(try dsimp only at hSw);go_simp;first|done|with_reducible rfl
    try simp only[Act.put,aK,aL,aM]
    refine tq 29 rfl ?_ (fun wS hSw=>?_) ?_
    rotate_left
    ·(try dsimp only at hSw);go_simp;first|done|with_reducible rfl
    try simp only[Act.put,aK,aL,aM]
    refine tq 30 rfl ?_ (fun wS hSw=>?_) ?_
    rotate_left
    ·(try dsimp only at hSw);go_simp;first|done|with_reducible rfl
    try simp only[Act.put,aK,aL,aM]
    refine tq 31 rfl ?_ (fun wS hSw=>?_) ?_
    rotate_left
    ·(try dsimp only at hSw)
     refine aF 33 (.tmp 102) ?_ gb 0 (.slice (some ⟨ib,0,none⟩) 1 pb) _ underlying33 rfl ?_ ?_
     ·rfl
     ·rfl
     exact(iU.out _ hSw).2.2.1
    try simp only[Act.put,aK,aL,aM]
    refine tq 32 rfl ?_ (fun wS hSw=>?_) ?_
    rotate_left
    ·(try dsimp only at hSw);go_simp;first|done|with_reducible rfl
    try simp only[Act.put,aK,aL,aM]
    refine tq 33 rfl ?_ (fun wS hSw=>?_) ?_
    rotate_left
    ·(try dsimp only at hSw);go_simp;first|done|with_reducible rfl
    try simp only[Act.put,aK,aL,aM]
    refine tq 34 rfl ?_ (fun wS hSw=>?_) ?_
    rotate_left
    ·(try dsimp only at hSw)
     refine aF 4 (.tmp 105) ?_ ib 0 (.bool is) _ underlying4 rfl ?_ ?_
     ·rfl
     ·rfl
     exact(iU.out _ hSw).2.2.2.2.2
    try simp only[Act.put,aK,aL,aM]
    refine tq 35 rfl ?_ (fun wS hSw=>?_) ?_
    rotate_left
    ·(try dsimp only at hSw);go_simp;first|done|with_reducible rfl
    try simp only[Act.put,aK,aL,aM]
    refine tq 36 rfl ?_ (fun wS hSw=>?_) ?_
    rotate_left
    ·(try dsimp only at hSw);go_simp;first|done|with_reducible rfl
    try simp only[Act.put,aK,aL,aM]
    refine tq 37 rfl ?_ (fun wS hSw=>?_) ?_
    rotate_left
    ·(try dsimp only at hSw);go_simp;first|done|with_reducible rfl
    try simp only[Act.put,aK,aL,aM]
    refine tq 38 rfl ?_ (fun wS hSw=>?_) ?_
    rotate_left
    ·(try dsimp only at hSw);go_simp;first|done|with_reducible rfl
    try simp only[Act.put,aK,aL,aM]
    refine tq 39 rfl ?_ (fun wS hSw=>?_) ?_
    rotate_left
    ·(try dsimp only at hSw);go_simp;first|done|with_reducible rfl
    try simp only[Act.put,aK,aL,aM]
    refine tq 40 rfl ?_ (fun wS hSw=>?_) ?_
    rotate_left
    ·(try dsimp only at hSw)
     refine aF 33 (.tmp 111) ?_ gb 0 (.slice (some ⟨ib,0,none⟩) 1 pb) _ underlying33 rfl ?_ ?_
     ·rfl
     ·rfl
     exact(iU.out _ hSw).2.2.1
    try simp only[Act.put,aK,aL,aM]
    refine tq 41 rfl ?_ (fun wS hSw=>?_) ?_
    rotate_left
    ·(try dsimp only at hSw);go_simp;first|done|with_reducible rfl
    try simp only[Act.put,aK,aL,aM]
    refine tq 42 rfl ?_ (fun wS hSw=>?_) ?_
    rotate_left
    ·(try dsimp only at hSw);go_simp;first|done|with_reducible rfl
    try simp only[Act.put,aK,aL,aM]
    refine tq 43 rfl ?_ (fun wS hSw=>?_) ?_
    rotate_left
    ·(try dsimp only at hSw)
     refine dM 30 (.tmp 114) ?_ ib 1 (bH qb uj) _ underlying30 rfl a2N.out ?_ ?_
     ·rfl
     ·rfl
     exact HUB.out _ hSw
    try simp only[Act.put,aK,aL,aM]
    refine tq 44 rfl ?_ (fun wS hSw=>?_) ?_
    rotate_left
    ·(try dsimp only at hSw)
     refine cq 30 (.tmp 14) ?_ gj (ah pj uj) _ underlying30 rfl TY.out ?_ ?_
     ·rfl
     ·rfl
     exact UJ.out.keep hSw
    try simp only[Act.put,aK,aL,aM]
    refine rn 45 (by kernel_rfl) rfl (by rfl) (fun K hK=>?_)
    go_simp
    refine(jw uj qb pj _ J8.out TM.out (RK.out _ hHeld) (HSJ.out _ hHeld)).mono ?_
    rintro e w20 ⟨rfl,hb⟩
    have D2:=h_ (hHeld.trans (hb.mono hHeld.size))
    clear hb
    refine hK.out _ _ ?_ (fun hHeld=>?_)
    ·first|exact aJ (aG _)|exact D2.out|exact D1.out
    clear hK K
    try simp only[Act.put,aK,aL,aM]
    refine tq 46 rfl ?_ (fun wS hSw=>?_) ?_
    rotate_left
    ·(try dsimp only at hSw);go_simp;first|done|with_reducible rfl
    try simp only[Act.put,aK,aL,aM]
    refine tq 47 rfl ?_ (fun wS hSw=>?_) ?_
    rotate_left
    ·(try dsimp only at hSw);go_simp;first|done|with_reducible rfl
    try simp only[Act.put,aK,aL,aM]
    refine wpAnyH_done (by kernel_rfl) ?_ _
    go_wp2_with fail
    go_ret
    exact⟨rfl,BZ.out.trans (D2.out.mono BZ.out.size)⟩
end Go.Proofs.YtmndlfglgcioeaaGreatDoor
