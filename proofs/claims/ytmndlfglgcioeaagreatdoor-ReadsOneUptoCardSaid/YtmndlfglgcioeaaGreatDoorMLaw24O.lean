/- The walk of ReadsOne, for texts up to 1048576 bytes. -/
import Derived.Test.YtmndlfglgcioeaaGreatDoorGRdsL
set_option maxHeartbeats 40000000
namespace Go.Proofs.YtmndlfglgcioeaaGreatDoor
open Tryz
open Go.RowKit
set_option maxRecDepth 10000
theorem vk {o:Oper} {a:Act} {w:World} {K:Act->World->Prop} {Q:Exit->Act->World->Prop} (ho:o.op=.alloc 30)
  (h:∀ (g:Nat) (w':World),OB w g 30 (ah aD U0) w'->K (a.put o.dst (.pointer (some ⟨g,0,none⟩))) w'):Oper.wp prog o a w K Q:=by
 unfold Oper.wp execOp
 simp only[ho,Sem.run_bind,Sem.run_pure,Result.andThen_ok,cD]
 exact h _ _ (OB.fresh w _ _)
theorem UY (a:Option Addr) (n c:Nat) (d:Bytes) (w:World):(Instr.field 35 (.agg (bj (.slice a n c) d)) 0).run prog w=.ok (.slice a n c) w:=by kernel_rfl
theorem readsOne_walk (t s:ByteArray) (w:World) (_:t.size<=maxLen) (_:s.size<=maxLen) (ub:t.size<=1048576) (ub2:s.size<=1048576) (hE:Env w) :
  Calls prog 3 #[.string t,.string s] w fun e w'=>e=.returned (.bool true)∧Below w.heap.size w w':=by
 have uF:=h_ (ii w hE)
 have hba:=fun(W:World) (hW:Below w.heap.size w W)=>kP t W ub (hE.below hW)
 have HE:=h_ hE
 cases hb:gv (ls t)with
 |none =>
  rw[hb]at hba
  have lA:=h_ (show ∀W,Below w.heap.size w W->Calls prog 10 #[.string t] W fun e w'=>e=.returned (.tuple #[.agg (ah aD U0),.bool false])∧Below W.heap.size W w' from hba)
  clear hba hb hE
  go_enter func3,ntmps3
  go_wp2_with (first
   |(go_at_call 9;refine(uF.out).mono ?_;rintro e w1 ⟨rfl,hb⟩;have B1:=h_ hb;clear hb)
   |(go_at_call 10;refine(lA.out _ B1.out).mono ?_;rintro e w2 ⟨rfl,hb⟩;have B2:=h_ (B1.out.trans (hb.mono B1.out.size));clear hb)
   |((with_reducible refine dZ ?_);refine aE rfl 30 rfl _ _ (cD _) ?_;refine cN rfl (.tmp 6) (.tmp 20) rfl aD U0 rfl rfl rfl rfl rfl ?_;intro w3 h3 hb;have B3:=h_ (B2.out.trans (hb.mono B2.out.size));clear h3 hb)
   |fail)
  go_ret
  exact⟨rfl,B3.out⟩
 |some u =>
  rw[hb]at hba
  obtain⟨q,hq⟩:=ap (decide (t.size<=300))
  have lA:=h_ (show ∀W,Below w.heap.size w W->Calls prog 10 #[.string t] W fun e w'=>∃ pv,e=.returned (.tuple #[.agg (ah pv u),.bool q])∧w'.ownsRow W.heap.size 9 1 pv u.path.length (Strs u.path)∧Below W.heap.size W w' from by rw[hq];exact hba)
  have H8:=h_ (mD hb)
  have Oa:=h_ hb
  have HQ:=h_ hq
  obtain⟨N,hN⟩:=ap (s.size)
  have hsz:s.size=N:=hN.symm
  clear hba hb hE hq
  go_enter func3,ntmps3
  go_upto_region 3 with(first
   |(go_at_call 9;refine(uF.out).mono ?_;rintro e w1 ⟨rfl,hb⟩;have B1:=h_ hb;clear hb)
   |(go_at_call 10;refine(lA.out _ B1.out).mono ?_;rintro e w2 ⟨pv,rfl,oo,hb⟩;have O2:=h_ oo;have B2:=h_ (B1.out.trans (hb.mono B1.out.size));clear hb oo)
   |((with_reducible refine dZ ?_);refine aE rfl 30 rfl _ _ (cD _) ?_;refine cN rfl (.tmp 6) (.tmp 20) rfl pv u H8.out (aS O2.out) rfl rfl rfl ?_;intro w3 h3 hb;have U3:=h_ h3;have B3:=h_ (B2.out.trans (hb.mono B2.out.size));have O3:=h_ (own_below' O2.out hb);clear h3 hb)
   |fail)
  obtain⟨g6,Vq⟩:=ap (w2.heap.size)
  rw[<-Vq]at U3 ⊢
  clear Vq B1 B2 O2 uF lA
  cases q with
  |false =>
   go_wp2_with fail
   go_ret
   exact⟨rfl,B3.out⟩
  |true =>
   have htl:(ls t).length<=300:=by rw[de];exact of_decide_eq_true HQ.out.symm
   by_cases h3:300<N
   ·have h3':(300:Int)<(N:Int):=by omega
    clear hN
    go_wp2_with fail
    go_ret
    exact⟨rfl,B3.out⟩
   have h3':¬ (300:Int)<(N:Int):=by omega
   have hsl:(ls s).length<=300:=by rw[de];omega
   obtain⟨l,hl⟩:=ap (ls s)
   have ti:s=bs l:=by rw[hl,nJ]
   rw[<-hl]at hsl
   have hU:=pR (s:=ls t) (by omega) Oa.out
   have hlim:=yo l
   obtain⟨it,hit⟩:=ap (dG u l [])
   have Oh:=h_ (show JQ it.url by rw[hit];exact CP htl hsl Oa.out [])
   have HI1:=h_ (fun(pv:Value) W (hb:Below w.heap.size w W) (hpv:Sl W.heap.size W pv (u.path.map S))=>(show Calls prog 11 #[.int .i64 1,.agg (ah pv u),.string s] W (eE W ⟨[it],[]⟩)from by
    rw[ti,hit]
    exact vK u pv l W H8.out hpv hU.b (by omega) (HE.out.below hb)))
   have yM:=h_ (fun(pv:Value) W (hb:Below w.heap.size w W) (hpv:Sl W.heap.size W pv (u.path.map S))=>(show Calls prog 12 #[.agg (ah pv u),.string s] W fun e w' =>
     ∃pj,e=.returned (.tuple #[.agg (ah pj it.url),.bool it.right])∧w'.ownsRow W.heap.size 9 1 pj it.url.path.length (Strs it.url.path)∧Below W.heap.size W w' from by
    rw[ti,hit]
    exact CS u pv l W H8.out hpv hU.b (by omega) (HE.out.below hb)))
   obtain⟨cs,hcs⟩:=ap (nz l)
   obtain⟨f,hf⟩:∃ f:dm->gG,f=fun c=>dG u c.url c.words:=⟨_,rfl⟩
   have HI2:=h_ (fun(pv:Value) W (hb:Below w.heap.size w W) (hpv:Sl W.heap.size W pv (u.path.map S))=>(show Calls prog 11 #[.int .i64 2,.agg (ah pv u),.string s] W (eE W ⟨cs.map f,[]⟩)from by
    rw[ti,hf,hcs]
    exact vL u pv l W H8.out hpv hU.b (by omega) (HE.out.below hb)))
   have gF:=h_ (fun W (hb:Below w.heap.size w W)=>(show Calls prog 13 #[.string s] W (SpP cs W)from by
    rw[ti,hcs]
    exact pL l W (by omega) (HE.out.below hb)))
   have HI0:=h_ (fun(pv:Value) W=>(show Calls prog 11 #[.int .i64 0,.agg (ah pv u),.string s] W (eE W ⟨[],[]⟩)from
    rc 0 (by decide) (by decide) (by decide) u pv s W))
   have HJ1:=h_ (fun(pv:Value) (c:dm) W (hc:c∈cs) (hb:Below w.heap.size w W) (hpv:Sl W.heap.size W pv (u.path.map S))=>(show Calls prog 12 #[.agg (ah pv u),S c.url] W fun e w' =>
     ∃pj,e=.returned (.tuple #[.agg (ah pj (dG u c.url []).url),.bool (dG u c.url []).right])∧w'.ownsRow W.heap.size 9 1 pj (dG u c.url []).url.path.length (Strs (dG u c.url []).url.path)∧Below W.heap.size W w' from
    CS u pv c.url W H8.out hpv hU.b (aq (hlim.2 c (by rw[<-hcs];exact hc)).1 (by omega)) (HE.out.below hb)))
   have HUC:=h_ (fun(c:dm) (hc:c∈cs)=>(show JQ (dG u c.url []).url from CP htl (aq (hlim.2 c (by rw[<-hcs];exact hc)).1 hsl) Oa.out []))
   have HFC:=h_ (fun c:dm=>(show(f c).url=(dG u c.url []).url∧(f c).right=(dG u c.url []).right∧(f c).words=c.words from by rw[hf];show(dG u c.url c.words).url=_∧(dG u c.url c.words).right=_∧(dG u c.url c.words).words=_;unfold dG;cases mC u c.url <;>exact⟨rfl,rfl,rfl⟩))
   obtain⟨M,hM⟩:=ap (cs.length)
   have hMl:M<=300:=by rw[hM,hcs];exact aq hlim.1 hsl
   have HM:=h_ hM
   clear hsl ti hl hU hit hcs hf htl hlim hM hN
   go_upto_region 6 with(first
    |((with_reducible refine dZ ?_);refine dB (by rfl) (.tmp 6) rfl _ pv u H8.out rfl U3.out ?_)
    |(go_at_call 11;refine(HI1.out pv _ B3.out (Sl.bL (cI O3.out))).mono ?_;rintro e w4 ⟨va,rfl,ir,hb⟩;have FS:=h_ ir;have B4:=h_ (B3.out.trans (hb.mono B3.out.size));have U4:=h_ (U3.out.keep hb);have O4:=h_ (own_below' O3.out hb);clear hb ir)
    |((with_reducible refine dZ ?_);refine aE rfl 35 rfl _ _ (ji _) ?_;refine re rfl (.tmp 8) (.tmp 32) rfl va [] (dU.one' FS.out) rfl rfl rfl ?_;intro w5 h5 hb;have RA5:=h_ h5;have B5:=h_ (B4.out.trans (hb.mono B4.out.size));have U5:=h_ (U4.out.keep hb);have O5:=h_ (own_below' O4.out hb);have FT:=h_ (FS.out.below hb);clear hb h5)
    |fail)
   obtain⟨ga,hga⟩:=ap (w4.heap.size)
   rw[<-hga]at RA5 ⊢
   clear hga B3 B4 U3 U4 O3 O4 FS HI1
   go_upto_region 7 with(first
    |((with_reducible refine dZ ?_);refine dB (by rfl) (.tmp 6) rfl _ pv u H8.out rfl U5.out ?_)
    |(go_at_call 12;refine(yM.out pv _ B5.out (Sl.bL (cI O5.out))).mono ?_;rintro e w6 ⟨pj,rfl,oj,hb⟩;have OJ6:=h_ oj;have B6:=h_ (B5.out.trans (hb.mono B5.out.size));have U6:=h_ (U5.out.keep hb);have O6:=h_ (own_below' O5.out hb);have W1:=h_ (RA5.out.keep hb);have OY:=h_ (FT.out.below hb);clear hb oj)
    |((with_reducible refine dZ ?_);refine aE rfl 30 rfl _ _ (cD _) ?_;refine cN rfl (.tmp 9) (.tmp 37) rfl pj it.url Oh.out.six (aS OJ6.out) rfl rfl rfl ?_;intro w7 h7 hb;have UJ7:=h_ h7;have B7:=h_ (B6.out.trans (hb.mono B6.out.size));have U7:=h_ (U6.out.keep hb);have O7:=h_ (own_below' O6.out hb);have OJ7:=h_ (own_below' OJ6.out hb);have X9:=h_ (W1.out.keep hb);have XT:=h_ (OY.out.below hb);clear hb h7)
    |fail)
   obtain⟨gj,hgj⟩:=ap (w6.heap.size)
   rw[<-hgj]at UJ7 ⊢
   clear hgj B5 B6 U5 U6 O5 O6 OJ6 RA5 W1 FT OY yM
   go_upto_region 8 with(first
    |((with_reducible refine dZ ?_);refine dB (by rfl) (.tmp 6) rfl _ pv u H8.out rfl U7.out ?_)
    |(go_at_call 11;refine(HI2.out pv _ B7.out (Sl.bL (cI O7.out))).mono ?_;rintro e w8 ⟨vb,rfl,ir,hb⟩;have WW:=h_ ir;have B8:=h_ (B7.out.trans (hb.mono B7.out.size));have U8:=h_ (U7.out.keep hb);have O8:=h_ (own_below' O7.out hb);have OJ8:=h_ (own_below' OJ7.out hb);have UJ8:=h_ (UJ7.out.keep hb);have Ya:=h_ (X9.out.keep hb);have IK:=h_ (XT.out.below hb);clear hb ir)
    |((with_reducible refine dZ ?_);refine aE rfl 35 rfl _ _ (ji _) ?_;refine re rfl (.tmp 11) (.tmp 41) rfl vb [] (dU.one' WW.out) rfl rfl rfl ?_;intro w9 h9 hb;have W3:=h_ h9;have B9:=h_ (B8.out.trans (hb.mono B8.out.size));have U9:=h_ (U8.out.keep hb);have O9:=h_ (own_below' O8.out hb);have WZ:=h_ (own_below' OJ8.out hb);have UJ9:=h_ (UJ8.out.keep hb);have Yb:=h_ (Ya.out.keep hb);have FU:=h_ (IK.out.below hb);have XW:=h_ (WW.out.below hb);clear hb h9)
    |fail)
   obtain⟨gb,hgb⟩:=ap (w8.heap.size)
   rw[<-hgb]at W3 ⊢
   clear hgb B7 B8 U7 U8 O7 O8 OJ7 OJ8 UJ7 UJ8 X9 Ya XT IK WW HI2
   go_upto_region 9 with(first
    |(go_at_call 13;refine(gF.out _ B9.out).mono ?_;rintro e wz ⟨vc,rfl,cr,hb⟩;have CR:=h_ cr;have BZ:=h_ (B9.out.trans (hb.mono B9.out.size));have UZ:=h_ (U9.out.keep hb);have OZ:=h_ (own_below' O9.out hb);have OJ:=h_ (own_below' WZ.out hb);have UJ:=h_ (UJ9.out.keep hb);have RA:=h_ (Yb.out.keep hb);have RB:=h_ (W3.out.keep hb);have IA:=h_ (FU.out.below hb);have IB:=h_ (XW.out.below hb);clear hb cr)
    |fail)
   clear B9 U9 O9 WZ UJ9 Yb W3 FU XW gF
   obtain⟨ia,pa,ea,_,Ym⟩:=IA.out.open (by simp)
   replace ea:va=.slice (some ⟨ia,0,none⟩) 1 pa:=ea
   obtain⟨qa,ra,ca,CM⟩:=Ym 0 (nH _)
   obtain⟨ab,cb,eb⟩:=IB.out.len
   rw[aj,<-HM.out]at eb
   obtain⟨ac,cc,ec⟩:=CR.out.len
   rw[<-HM.out]at ec
   subst ec
   obtain⟨is,his⟩:=ap (it.right)
   obtain⟨uj,Cy⟩:=ap (it.url)
   have hcl:∀ {W:World} {g j:Nat} {x:Value},Below wz.heap.size wz W->wz.cell? ⟨g,j,none⟩=some x->W.cell? ⟨g,j,none⟩=some x:=fun hb hc=>(hb.cell (p:=⟨_,_,none⟩) (World.block_lt_of_cell? _ _ hc)).trans hc
   have iU:=h_ (fun(W:World) (hb:Below wz.heap.size wz W)=>(show W.cell? ⟨ga,0,none⟩=some (.slice (some ⟨ia,0,none⟩) 1 pa)∧W.cell? ⟨ga,1,none⟩=some (.string ⟨#[]⟩)∧W.cell? ⟨gb,0,none⟩=some (.slice ab M cb)∧W.cell? ⟨gb,1,none⟩=some (.string ⟨#[]⟩)∧W.cell? ⟨ia,0,none⟩=some (.bool is)from
    ⟨hcl hb (by rw[<-ea];exact RA.out.ak rfl),hcl hb (RA.out.ak rfl),hcl hb (by rw[<-eb];exact RB.out.ak rfl),hcl hb (RB.out.ak rfl),hcl hb (by rw[his];exact ca 0 _ gp)⟩))
   have HUA:=h_ (fun(W:World) (hb:Below wz.heap.size wz W)=>(show W.rangeAt ia 1 (bH qa uj)from fun j x hj=>hcl hb (by rw[Cy]at hj;have:=ca (1+j) _ (ot hj);simpa using this)))
   have u6:=h_ (fun(W:World) (hb:Below wz.heap.size wz W)=>(show Sl W.heap.size W qa (uj.path.map S)from by rw[Cy];exact((Sl.bL (cI CM.path)).below hb).more hb.size))
   have HSJ:=h_ (fun(W:World) (hb:Below wz.heap.size wz W)=>(show Sl W.heap.size W pj (uj.path.map S)from by rw[Cy];exact((Sl.bL (cI OJ.out)).below hb).more hb.size))
   have J8:=h_ (show uj.host.six.length=8 by rw[Cy];exact Oh.out.six)
   have TM:=h_ (show uj.path.length<=1024000000 by rw[Cy];have:=Oh.out.bs.1;omega)
   have TY:=h_ (show(prog.info? 30).map (·.size)=some (ah pj uj).size by rw[eL J8.out];exact dq)
   have HUL:=h_ (show(prog.info? 30).map (·.size)=some (bH qa uj).length by rw[gg J8.out];exact dq)
   have u7:=h_ (show(prog.info? 30).map (·.size)=some (ah pv u).size by rw[eL H8.out];exact dq)
   have EB:=h_ eb
   rw[<-Cy]at UJ ⊢
   rw[<-his]
   clear Ym ca CM hcl ea eb RA RB IA OJ his Cy Oh
   refine wp_region_held_drew (S:=fun W=>Below wz.heap.size wz W) (by kernel_rfl) (by first|exact hHeld|exact aJ (aG _)|exact D1.out) (fun hHeld=>?_)
   refine tq 0 rfl ?_ (fun wS hSw=>?_) ?_
   rotate_left
   ·(try dsimp only at hSw);go_simp;first|done|with_reducible rfl
   try simp only[Act.put,aK,aL,aM]
   refine tq 1 rfl ?_ (fun wS hSw=>?_) ?_
   rotate_left
   ·(try dsimp only at hSw)
    refine aF 33 (.tmp 44) ?_ ga 0 (.slice (some ⟨ia,0,none⟩) 1 pa) _ underlying33 rfl ?_ ?_
    ·rfl
    ·rfl
    exact(iU.out _ hSw).1
   try simp only[Act.put,aK,aL,aM]
   refine tq 2 rfl ?_ (fun wS hSw=>?_) ?_
   rotate_left
   ·(try dsimp only at hSw);go_simp;first|done|with_reducible rfl
   try simp only[Act.put,aK,aL,aM]
   refine tq 3 rfl ?_ (fun wS hSw=>?_) ?_
   rotate_left
   ·(try dsimp only at hSw);go_simp;first|done|with_reducible rfl
   try simp only[Act.put,aK,aL,aM]
   refine tq 4 rfl ?_ (fun wS hSw=>?_) ?_
   rotate_left
   ·(try dsimp only at hSw);go_simp;first|done|with_reducible rfl
   try simp only[Act.put,aK,aL,aM]
   refine tq 5 rfl ?_ (fun wS hSw=>?_) ?_
   rotate_left
   ·(try dsimp only at hSw);go_simp;first|done|with_reducible rfl
   try simp only[Act.put,aK,aL,aM]
   refine tq 6 rfl ?_ (fun wS hSw=>?_) ?_
   rotate_left
   ·(try dsimp only at hSw)
    refine aF 33 (.tmp 49) ?_ ga 0 (.slice (some ⟨ia,0,none⟩) 1 pa) _ underlying33 rfl ?_ ?_
    ·rfl
    ·rfl
    exact(iU.out _ hSw).1
   try simp only[Act.put,aK,aL,aM]
   refine tq 7 rfl ?_ (fun wS hSw=>?_) ?_
   rotate_left
   ·(try dsimp only at hSw);go_simp;first|done|with_reducible rfl
   try simp only[Act.put,aK,aL,aM]
   refine tq 8 rfl ?_ (fun wS hSw=>?_) ?_
   rotate_left
   ·(try dsimp only at hSw);go_simp;first|done|with_reducible rfl
   try simp only[Act.put,aK,aL,aM]
   refine tq 9 rfl ?_ (fun wS hSw=>?_) ?_
   rotate_left
   ·(try dsimp only at hSw)
    refine aF 4 (.tmp 52) ?_ ia 0 (.bool is) _ underlying4 rfl ?_ ?_
    ·rfl
    ·rfl
    exact(iU.out _ hSw).2.2.2.2
   try simp only[Act.put,aK,aL,aM]
   refine tq 10 rfl ?_ (fun wS hSw=>?_) ?_
   rotate_left
   ·(try dsimp only at hSw);go_simp;first|done|with_reducible rfl
   try simp only[Act.put,aK,aL,aM]
   refine tq 11 rfl ?_ (fun wS hSw=>?_) ?_
   rotate_left
   ·(try dsimp only at hSw);go_simp;first|done|with_reducible rfl
   try simp only[Act.put,aK,aL,aM]
   refine tq 12 rfl ?_ (fun wS hSw=>?_) ?_
   rotate_left
   ·(try dsimp only at hSw);go_simp;first|done|with_reducible rfl
   try simp only[Act.put,aK,aL,aM]
   refine tq 13 rfl ?_ (fun wS hSw=>?_) ?_
   rotate_left
   ·(try dsimp only at hSw);go_simp;first|done|with_reducible rfl
   try simp only[Act.put,aK,aL,aM]
   refine tq 14 rfl ?_ (fun wS hSw=>?_) ?_
   rotate_left
   ·(try dsimp only at hSw);go_simp;first|done|with_reducible rfl
   try simp only[Act.put,aK,aL,aM]
   refine tq 15 rfl ?_ (fun wS hSw=>?_) ?_
   rotate_left
   ·(try dsimp only at hSw)
    refine aF 33 (.tmp 58) ?_ ga 0 (.slice (some ⟨ia,0,none⟩) 1 pa) _ underlying33 rfl ?_ ?_
    ·rfl
    ·rfl
    exact(iU.out _ hSw).1
   try simp only[Act.put,aK,aL,aM]
   refine tq 16 rfl ?_ (fun wS hSw=>?_) ?_
   rotate_left
   ·(try dsimp only at hSw);go_simp;first|done|with_reducible rfl
   try simp only[Act.put,aK,aL,aM]
   refine tq 17 rfl ?_ (fun wS hSw=>?_) ?_
   rotate_left
   ·(try dsimp only at hSw);go_simp;first|done|with_reducible rfl
   try simp only[Act.put,aK,aL,aM]
   refine tq 18 rfl ?_ (fun wS hSw=>?_) ?_
   rotate_left
   ·(try dsimp only at hSw)
    refine dM 30 (.tmp 61) ?_ ia 1 (bH qa uj) _ underlying30 rfl HUL.out ?_ ?_
    ·rfl
    ·rfl
    exact HUA.out _ hSw
   try simp only[Act.put,aK,aL,aM]
   refine tq 19 rfl ?_ (fun wS hSw=>?_) ?_
   rotate_left
   ·(try dsimp only at hSw)
    refine cq 30 (.tmp 9) ?_ gj (ah pj uj) _ underlying30 rfl TY.out ?_ ?_
    ·rfl
    ·rfl
    exact UJ.out.keep hSw
   try simp only[Act.put,aK,aL,aM]
   refine rn 20 (by kernel_rfl) rfl (by rfl) (fun K hK=>?_)
   go_simp
   refine(jw uj qa pj _ J8.out TM.out (u6.out _ hHeld) (HSJ.out _ hHeld)).mono ?_
   rintro e w19 ⟨rfl,hb⟩
   have D1:=h_ (hHeld.trans (hb.mono hHeld.size))
   clear hb
   refine hK.out _ _ ?_ (fun hHeld=>?_)
   ·first|exact hHeld|exact aJ (aG _)|exact D1.out
   clear hK K
   try simp only[Act.put,aK,aL,aM]
   refine tq 21 rfl ?_ (fun wS hSw=>?_) ?_
   rotate_left
   ·(try dsimp only at hSw);go_simp;first|done|with_reducible rfl
   try simp only[Act.put,aK,aL,aM]
   refine tq 22 rfl ?_ (fun wS hSw=>?_) ?_
   rotate_left
   ·(try dsimp only at hSw);go_simp;first|done|with_reducible rfl
   try simp only[Act.put,aK,aL,aM]
   refine tq 23 rfl ?_ (fun wS hSw=>?_) ?_
   rotate_left
   ·(try dsimp only at hSw);go_simp;first|done|with_reducible rfl
   try simp only[Act.put,aK,aL,aM]
   refine tq 24 rfl ?_ (fun wS hSw=>?_) ?_
   rotate_left
   ·(try dsimp only at hSw);go_simp;first|done|with_reducible rfl
   try simp only[Act.put,aK,aL,aM]
   refine tq 25 rfl ?_ (fun wS hSw=>?_) ?_
   rotate_left
   ·(try dsimp only at hSw)
    refine aF 33 (.tmp 68) ?_ gb 0 (.slice ab M cb) _ underlying33 rfl ?_ ?_
    ·rfl
    ·rfl
    exact(iU.out _ hSw).2.2.1
   try simp only[Act.put,aK,aL,aM]
   refine tq 26 rfl ?_ (fun wS hSw=>?_) ?_
   rotate_left
   ·(try dsimp only at hSw);go_simp;first|done|with_reducible rfl
   try simp only[Act.put,aK,aL,aM]
   refine tq 27 rfl ?_ (fun wS hSw=>?_) ?_
   rotate_left
   ·(try dsimp only at hSw);go_simp;first|done|with_reducible rfl
   try simp only[Act.put,aK,aL,aM]
   refine tq 28 rfl ?_ (fun wS hSw=>?_) ?_
   rotate_left
   ·(try dsimp only at hSw);go_simp;first|done|with_reducible rfl
   try simp only[Act.put,aK,aL,aM]
   refine tq 29 rfl ?_ (fun wS hSw=>?_) ?_
   rotate_left
   ·(try dsimp only at hSw);go_simp;first|done|with_reducible rfl
   try simp only[Act.put,aK,aL,aM]
   refine tq 30 rfl ?_ (fun wS hSw=>?_) ?_
   rotate_left
   ·(try dsimp only at hSw);go_simp;first|done|with_reducible rfl
   try simp only[Act.put,aK,aL,aM]
   refine tq 31 rfl ?_ (fun wS hSw=>?_) ?_
   rotate_left
   ·(try dsimp only at hSw);go_simp;first|done|with_reducible rfl
   try simp only[Act.put,aK,aL,aM]
   refine tq 32 rfl ?_ (fun wS hSw=>?_) ?_
   rotate_left
   ·(try dsimp only at hSw);go_simp;first|done|with_reducible rfl
   try simp only[Act.put,aK,aL,aM]
   refine tq 33 rfl ?_ (fun wS hSw=>?_) ?_
   rotate_left
   ·(try dsimp only at hSw)
    refine aF 9 (.tmp 76) ?_ ga 1 (.string ⟨#[]⟩) _ underlying9 rfl ?_ ?_
    ·rfl
    ·rfl
    exact(iU.out _ hSw).2.1
   try simp only[Act.put,aK,aL,aM]
   refine tq 34 rfl ?_ (fun wS hSw=>?_) ?_
   rotate_left
   ·(try dsimp only at hSw);go_simp;first|done|with_reducible rfl
   try simp only[Act.put,aK,aL,aM]
   refine tq 35 rfl ?_ (fun wS hSw=>?_) ?_
   rotate_left
   ·(try dsimp only at hSw);go_simp;first|done|with_reducible rfl
   try simp only[Act.put,aK,aL,aM]
   refine tq 36 rfl ?_ (fun wS hSw=>?_) ?_
   rotate_left
   ·(try dsimp only at hSw);go_simp;first|done|with_reducible rfl
   try simp only[Act.put,aK,aL,aM]
   refine tq 37 rfl ?_ (fun wS hSw=>?_) ?_
   rotate_left
   ·(try dsimp only at hSw);go_simp;first|done|with_reducible rfl
   try simp only[Act.put,aK,aL,aM]
   refine tq 38 rfl ?_ (fun wS hSw=>?_) ?_
   rotate_left
   ·(try dsimp only at hSw)
    refine aF 9 (.tmp 81) ?_ gb 1 (.string ⟨#[]⟩) _ underlying9 rfl ?_ ?_
    ·rfl
    ·rfl
    exact(iU.out _ hSw).2.2.2.1
   try simp only[Act.put,aK,aL,aM]
   refine tq 39 rfl ?_ (fun wS hSw=>?_) ?_
   rotate_left
   ·(try dsimp only at hSw);go_simp;first|done|with_reducible rfl
   try simp only[Act.put,aK,aL,aM]
   refine tq 40 rfl ?_ (fun wS hSw=>?_) ?_
   rotate_left
   ·(try dsimp only at hSw);go_simp;first|done|with_reducible rfl
   try simp only[Act.put,aK,aL,aM]
   refine wpAnyH_done (by kernel_rfl) ?_ _
   go_wp2_with fail
   go_loopw [13,14,15] (fun iv _ _ wr=>∃ k:Nat,k<=M∧iv=.int .i64 k∧Hid (Below wz.heap.size wz wr)) (fun i _ _ _=>M-(intOf i).toNat)
   case atStart=>exact⟨0,aO _,rfl,D1⟩
   case round =>
    obtain⟨k,hk,rfl,BR⟩:=hrel
    by_cases hkM:k<M
    ·have hkl:k<cs.length:=by have:=HM.out;omega
     have Zy:k<(cs.map f).length:=by rw[aj];exact hkl
     obtain⟨c,hc⟩:=ap (cs[k])
     have hcm:c∈cs:=by rw[hc];exact bJ hkl
     obtain⟨qb,qo,wv,hac,_,hra,hsw⟩:=za ((CR.out.below BR.out).SG (by rw[<-HM.out];exact aq hMl (by decide))) k hkl
     rw[<-hc]at hra hsw
     obtain⟨ib,p2,eb,_,Yn⟩:=IB.out.open (fun h=>by rw[h]at Zy;exact absurd Zy (bE _))
     rw[EB.out]at eb
     injection eb with e1 x1 x2
     obtain⟨qk,wk,ck,ipk⟩:=Yn k Zy
     rw[bQ,<-hc]at ck ipk
     have hfc:=HFC.out c
     obtain⟨uk,huk⟩:=ap ((dG u c.url []).url)
     obtain⟨ik,hik⟩:=ap ((dG u c.url []).right)
     have hok:=HUC.out c hcm
     have HJ2:=fun W hb hpv=>HJ1.out pv c W hcm hb hpv
     rw[<-huk,<-hik]at hfc
     rw[<-huk]at hok
     rw[<-huk,<-hik]at HJ2
     have BW:=h_ (BZ.out.trans (BR.out.mono BZ.out.size))
     have OR:=h_ (own_below' OZ.out BR.out)
     have HJC:=h_ (fun W (hb:Below wr.heap.size wr W)=>HJ2 W (BW.out.trans (hb.mono BW.out.size)) (((Sl.bL (cI OR.out)).below hb).more hb.size))
     have UR:=h_ (UZ.out.keep BR.out)
     have K8:=h_ hok.six
     have a2v:=h_ (show uk.path.length<=1024000000 by have:=hok.bs.1;omega)
     have hcl:∀ {V W:World} {g j:Nat} {x:Value},Below V.heap.size V W->V.cell? ⟨g,j,none⟩=some x->W.cell? ⟨g,j,none⟩=some x:=fun hb hc=>(hb.cell (p:=⟨_,_,none⟩) (World.block_lt_of_cell? _ _ hc)).trans hc
     have jO:=h_ (fun(V:World) (hb:Below wr.heap.size wr V)=>(show V.cell? ⟨qb,qo+k*8,none⟩=some (S c.url)from hcl hb (hra 0 _ rfl)))
     have HCW:=h_ (show wr.cell? ⟨qb,qo+k*8+1,none⟩=some wv from hra 1 _ rfl)
     have WR:=h_ hsw
     have HCK:=h_ ck
     have HPK:=h_ ipk
     have XB:=h_ hfc
     have E1':=h_ e1
     subst hac
     subst e1
     clear x1 x2 Yn hra hsw ck ipk hfc hok HJ2 hc huk hik hkl Zy E1'
     go_upto_region 14 with fail
     go_cut [14,15]from 85 to 134 (fun v14 v15 wx=>∃ (g14:Nat) (pk:Value),v14=.pointer (some ⟨g14,0,none⟩)∧v15=.bool ik∧Hid (CB wx g14 30 (ah pk uk))∧Hid (wx.ownsRow wr.heap.size 9 1 pk uk.path.length (Strs uk.path))∧Hid (Below wr.heap.size wr wx))
     case first =>
      refine wp_region_held_drew (S:=fun W=>Below wr.heap.size wr W) (by kernel_rfl) (by first|exact E3.out|exact E2.out|exact E1.out|exact hHeld|exact aJ (aG _)) (fun hHeld=>?_)
      refine tq 0 rfl ?_ (fun wS hSw=>?_) ?_
      rotate_left
      ·(try dsimp only at hSw)
       refine cq 30 (.tmp 6) ?_ g6 (ah pv u) _ underlying30 rfl u7.out ?_ ?_
       ·rfl
       ·rfl
       exact UR.out.keep hSw
      try simp only[Act.put,aK,aL,aM]
      refine tq 1 rfl ?_ (fun wS hSw=>?_) ?_
      rotate_left
      ·(try dsimp only at hSw);go_simp;first|done|with_reducible rfl
      try simp only[Act.put,aK,aL,aM]
      refine tq 2 rfl ?_ (fun wS hSw=>?_) ?_
      rotate_left
      ·(try dsimp only at hSw);go_simp;first|done|with_reducible rfl
      try simp only[Act.put,aK,aL,aM]
      refine tq 3 rfl ?_ (fun wS hSw=>?_) ?_
      rotate_left
      ·(try dsimp only at hSw);go_simp;first|done|with_reducible rfl
      try simp only[Act.put,aK,aL,aM]
      refine tq 4 rfl ?_ (fun wS hSw=>?_) ?_
      rotate_left
      ·(try dsimp only at hSw);go_simp;first|done|with_reducible rfl
      try simp only[Act.put,aK,aL,aM]
      refine tq 5 rfl ?_ (fun wS hSw=>?_) ?_
      rotate_left
      ·(try dsimp only at hSw)
       refine aF 9 (.tmp 96) ?_ qb (qo+k*8) (S c.url) _ underlying9 rfl ?_ ?_
       ·rfl
       ·rfl
       exact jO.out _ hSw
      try simp only[Act.put,aK,aL,aM]
      refine rn2 6 10 (by kernel_rfl) rfl (by rfl) ?_ rfl (by rfl) ?_
      ·intro K hK
       go_simp
       refine(HJC.out _ hHeld).mono ?_
       rintro e w5 ⟨pk,rfl,ok,hb⟩
       have E1:=h_ (hHeld.trans (hb.mono hHeld.size));have Uj:=h_ ok;have LB:=h_ hHeld.size
       try have HGB:=h_ IF.out.lt
       try have IF:=h_ (IF.out.below hb)
       clear hb ok
       refine hK.out _ _ ?_ (fun hHeld=>?_)
       ·first|exact E3.out|exact E2.out|exact E1.out|exact hHeld|exact aJ (aG _)
       clear hK K
       try simp only[Act.put,aK,aL,aM]
       refine tq 7 rfl ?_ (fun wS hSw=>?_) ?_
       rotate_left
       ·(try dsimp only at hSw);go_simp;first|done|with_reducible rfl
       try simp only[Act.put,aK,aL,aM]
       refine tq 8 rfl ?_ (fun wS hSw=>?_) ?_
       rotate_left
       ·(try dsimp only at hSw);go_simp;first|done|with_reducible rfl
       try simp only[Act.put,aK,aL,aM]
       refine tq 9 rfl ?_ (fun wS hSw=>?_) ?_
       rotate_left
       ·(try dsimp only at hSw);go_simp;first|done|with_reducible rfl
       try simp only[Act.put,aK,aL,aM]
       refine rn 10 (by kernel_rfl) rfl (by rfl) (fun K hK=>?_)
       refine vk rfl ?_
       intro g14 wa ia
       try have OKw:=Uj
       have EW:=h_ hHeld
       have E2:=h_ (hHeld.trans (ia.bq.mono hHeld.size));have IF:=h_ ia
       clear ia
       refine hK.out _ _ ?_ (fun hHeld=>?_)
       ·first|exact E3.out|exact E2.out|exact E1.out|exact hHeld|exact aJ (aG _)
       clear hK K
       try simp only[Act.put,aK,aL,aM]
       refine rn 11 (by kernel_rfl) rfl (by rfl) (fun K hK=>?_)
       refine g9 30 (.tmp 14) (.tmp 99) rfl _ g14 30 (ah aD U0) IF.out 0 (bH pk uk) rfl rfl (by rw[gg K8.out];exact bA rfl) (by rw[gg K8.out];exact dq) (pP (aS Uj.out)) (ah pk uk) (lz rfl K8.out) ?_
       intro w7 i7 t7
       have I7:=h_ i7
       have E3:=h_ (EW.out.trans (i7.bq.mono EW.out.size))
       have Uk:=h_ (show w7.ownsRow wr.heap.size 9 1 pk uk.path.length (Strs uk.path)from by first|exact fA (own_below' OKw.out i7.bq) LB.out|exact fA (t7.row Uj.out HGB.out) LB.out)
       have UK:=h_ i7.cb
       clear i7 t7 I7 EW IF
       refine hK.out _ _ ?_ (fun hHeld=>?_)
       ·first|exact E3.out|exact E2.out|exact E1.out|exact hHeld|exact aJ (aG _)
       clear hK K
       try simp only[Act.put]
       refine tq 12 rfl ?_ (fun wS hSw=>?_) ?_
       rotate_left
       ·(try dsimp only at hSw);go_simp;first|done|with_reducible rfl
       try simp only[Act.put,aK,aL,aM]
       refine wpAnyH_done (by kernel_rfl) ?_ _
       go_wp2_with fail
       go_meet
       case rel=>exact⟨g14,pk,rfl,rfl,UK,Uk,E3⟩
      intro K hK
      refine vk rfl ?_
      intro g14 wa ia
      try have OKw:=Uj
      have EW:=h_ hHeld
      have E2:=h_ (hHeld.trans (ia.bq.mono hHeld.size));have IF:=h_ ia
      clear ia
      refine hK.out _ _ ?_ (fun hHeld=>?_)
      ·first|exact E3.out|exact E2.out|exact E1.out|exact hHeld|exact aJ (aG _)
      clear hK K
      try simp only[Act.put,aK,aL,aM]
      refine rn 6 (by kernel_rfl) rfl (by rfl) (fun K hK=>?_)
      go_simp
      refine(HJC.out _ hHeld).mono ?_
      rintro e w5 ⟨pk,rfl,ok,hb⟩
      have E1:=h_ (hHeld.trans (hb.mono hHeld.size));have Uj:=h_ ok;have LB:=h_ hHeld.size
      try have HGB:=h_ IF.out.lt
      try have IF:=h_ (IF.out.below hb)
      clear hb ok
      refine hK.out _ _ ?_ (fun hHeld=>?_)
      ·first|exact E3.out|exact E2.out|exact E1.out|exact hHeld|exact aJ (aG _)
      clear hK K
      try simp only[Act.put,aK,aL,aM]
      refine tq 7 rfl ?_ (fun wS hSw=>?_) ?_
      rotate_left
      ·(try dsimp only at hSw);go_simp;first|done|with_reducible rfl
      try simp only[Act.put,aK,aL,aM]
      refine tq 8 rfl ?_ (fun wS hSw=>?_) ?_
      rotate_left
      ·(try dsimp only at hSw);go_simp;first|done|with_reducible rfl
      try simp only[Act.put,aK,aL,aM]
      refine tq 9 rfl ?_ (fun wS hSw=>?_) ?_
      rotate_left
      ·(try dsimp only at hSw);go_simp;first|done|with_reducible rfl
      try simp only[Act.put,aK,aL,aM]
      refine rn 11 (by kernel_rfl) rfl (by rfl) (fun K hK=>?_)
      refine g9 30 (.tmp 14) (.tmp 99) rfl _ g14 30 (ah aD U0) IF.out 0 (bH pk uk) rfl rfl (by rw[gg K8.out];exact bA rfl) (by rw[gg K8.out];exact dq) (pP (aS Uj.out)) (ah pk uk) (lz rfl K8.out) ?_
      intro w7 i7 t7
      have I7:=h_ i7
      have E3:=h_ (EW.out.trans (i7.bq.mono EW.out.size))
      have Uk:=h_ (show w7.ownsRow wr.heap.size 9 1 pk uk.path.length (Strs uk.path)from by first|exact fA (own_below' OKw.out i7.bq) LB.out|exact fA (t7.row Uj.out HGB.out) LB.out)
      have UK:=h_ i7.cb
      clear i7 t7 I7 EW IF
      refine hK.out _ _ ?_ (fun hHeld=>?_)
      ·first|exact E3.out|exact E2.out|exact E1.out|exact hHeld|exact aJ (aG _)
      clear hK K
      try simp only[Act.put]
      refine tq 12 rfl ?_ (fun wS hSw=>?_) ?_
      rotate_left
      ·(try dsimp only at hSw);go_simp;first|done|with_reducible rfl
      try simp only[Act.put,aK,aL,aM]
      refine wpAnyH_done (by kernel_rfl) ?_ _
      go_wp2_with fail
      go_meet
      case rel=>exact⟨g14,pk,rfl,rfl,UK,Uk,E3⟩
     case rest =>
      obtain⟨g14,pk,rfl,rfl,UK,Uk,E3⟩:=hcut
      obtain⟨wy,hwy⟩:=ap (wc)
      rw[<-hwy]at UK E3 Uk ⊢
      clear hwy
      have fF:=h_ (BR.out.trans (E3.out.mono BR.out.size))
      have WK:=h_ (fun(V:World) (hb:Below wy.heap.size wy V)=>(show V.cell? ⟨gb,0,none⟩=some (.slice (some ⟨ib,0,none⟩) M cb)∧V.cell? ⟨ib,k*25,none⟩=some (.bool ik)∧V.cell? ⟨ib,k*25+24,none⟩=some wk∧V.cell? ⟨qb,qo+k*8+1,none⟩=some wv from
       ⟨(iU.out V (fF.out.trans (hb.mono fF.out.size))).2.2.1,hcl (fF.out.trans (hb.mono fF.out.size)) (by rw[<-XB.out.2.1];exact HCK.out 0 _ gp),hcl (fF.out.trans (hb.mono fF.out.size)) (HCK.out 24 _ (xS HPK.out.six)),hcl (E3.out.trans (hb.mono E3.out.size)) HCW.out⟩))
      have HUK:=h_ (fun(V:World) (hb:Below wy.heap.size wy V)=>(show V.rangeAt ib (k*25+1) (bH qk uk)from fun j x hj=>hcl (fF.out.trans (hb.mono fF.out.size)) (by rw[<-XB.out.1]at hj;have:=HCK.out (1+j) _ (ot hj);rw[lK];exact this)))
      have HSK:=h_ (fun(V:World) (hb:Below wy.heap.size wy V)=>(show Sl V.heap.size V qk (uk.path.map S)from by rw[<-XB.out.1];exact((Sl.bL (cI HPK.out.path)).below (fF.out.trans (hb.mono fF.out.size))).more (aq fF.out.size hb.size)))
      have HSL:=h_ (fun(V:World) (hb:Below wy.heap.size wy V)=>(show Sl V.heap.size V pk (uk.path.map S)from((Sl.bL (cI Uk.out)).below hb).more hb.size))
      have HWK:=h_ (fun(V:World) (hb:Below wy.heap.size wy V)=>(show Sl wz.heap.size V wk (c.words.map S)from by rw[<-XB.out.2.2];exact(Sl.bL (cI HPK.out.words)).below (fF.out.trans (hb.mono fF.out.size))))
      have HWV:=h_ (fun(V:World) (hb:Below wy.heap.size wy V)=>(show Sl wr.heap.size V wv (c.words.map S)from WR.out.below (E3.out.trans (hb.mono E3.out.size))))
      have a2L:=h_ (show(prog.info? 30).map (·.size)=some (ah pk uk).size by rw[eL K8.out];exact dq)
      have a2O:=h_ (show(prog.info? 30).map (·.size)=some (bH qk uk).length by rw[gg K8.out];exact dq)
      clear Uk HCK HPK XB HCW WR jO HJC UR hcl
      go_upto_region 15 with fail
      refine wp_region_held_drew (S:=fun W=>Below wy.heap.size wy W) (by kernel_rfl) (by first|exact hHeld|exact aJ (aG _)|exact F2.out|exact F1.out) (fun hHeld=>?_)
      refine tq 0 rfl ?_ (fun wS hSw=>?_) ?_
      rotate_left
      ·(try dsimp only at hSw);go_simp;first|done|with_reducible rfl
      try simp only[Act.put,aK,aL,aM]
      refine tq 1 rfl ?_ (fun wS hSw=>?_) ?_
      rotate_left
      ·(try dsimp only at hSw)
       refine aF 33 (.tmp 101) ?_ gb 0 (.slice (some ⟨ib,0,none⟩) M cb) _ underlying33 rfl ?_ ?_
       ·rfl
       ·rfl
       exact(WK.out _ hSw).1
      try simp only[Act.put,aK,aL,aM]
      refine tq 2 rfl ?_ (fun wS hSw=>?_) ?_
      rotate_left
      ·(try dsimp only at hSw);go_simp;first|done|with_reducible rfl
      try simp only[Act.put,aK,aL,aM]
      refine tq 3 rfl ?_ (fun wS hSw=>?_) ?_
      rotate_left
      ·(try dsimp only at hSw);go_simp;first|done|with_reducible rfl
      try simp only[Act.put,aK,aL,aM]
      refine tq 4 rfl ?_ (fun wS hSw=>?_) ?_
      rotate_left
      ·(try dsimp only at hSw);go_simp;first|done|with_reducible rfl
      try simp only[Act.put,aK,aL,aM]
      refine tq 5 rfl ?_ (fun wS hSw=>?_) ?_
      rotate_left
      ·(try dsimp only at hSw)
       refine aF 4 (.tmp 105) ?_ ib (k*25) (.bool ik) _ underlying4 rfl ?_ ?_
       ·rfl
       ·rfl
       exact(WK.out _ hSw).2.1
      try simp only[Act.put,aK,aL,aM]
      refine tq 6 rfl ?_ (fun wS hSw=>?_) ?_
      rotate_left
      ·(try dsimp only at hSw);go_simp;first|done|with_reducible rfl
      try simp only[Act.put,aK,aL,aM]
      refine tq 7 rfl ?_ (fun wS hSw=>?_) ?_
      rotate_left
      ·(try dsimp only at hSw);go_simp;first|done|with_reducible rfl
      try simp only[Act.put,aK,aL,aM]
      refine tq 8 rfl ?_ (fun wS hSw=>?_) ?_
      rotate_left
      ·(try dsimp only at hSw);go_simp;first|done|with_reducible rfl
      try simp only[Act.put,aK,aL,aM]
      refine tq 9 rfl ?_ (fun wS hSw=>?_) ?_
      rotate_left
      ·(try dsimp only at hSw);go_simp;first|done|with_reducible rfl
      try simp only[Act.put,aK,aL,aM]
      refine tq 10 rfl ?_ (fun wS hSw=>?_) ?_
      rotate_left
      ·(try dsimp only at hSw)
       refine aF 33 (.tmp 110) ?_ gb 0 (.slice (some ⟨ib,0,none⟩) M cb) _ underlying33 rfl ?_ ?_
       ·rfl
       ·rfl
       exact(WK.out _ hSw).1
      try simp only[Act.put,aK,aL,aM]
      refine tq 11 rfl ?_ (fun wS hSw=>?_) ?_
      rotate_left
      ·(try dsimp only at hSw);go_simp;first|done|with_reducible rfl
      try simp only[Act.put,aK,aL,aM]
      refine tq 12 rfl ?_ (fun wS hSw=>?_) ?_
      rotate_left
      ·(try dsimp only at hSw);go_simp;first|done|with_reducible rfl
      try simp only[Act.put,aK,aL,aM]
      refine tq 13 rfl ?_ (fun wS hSw=>?_) ?_
      rotate_left
      ·(try dsimp only at hSw);go_simp;first|done|with_reducible rfl
      try simp only[Act.put,aK,aL,aM]
      refine tq 14 rfl ?_ (fun wS hSw=>?_) ?_
      rotate_left
      ·(try dsimp only at hSw)
       refine dM 30 (.tmp 114) ?_ ib (k*25+1) (bH qk uk) _ underlying30 rfl a2O.out ?_ ?_
       ·rfl
       ·rfl
       exact HUK.out _ hSw
      try simp only[Act.put,aK,aL,aM]
      refine tq 15 rfl ?_ (fun wS hSw=>?_) ?_
      rotate_left
      ·(try dsimp only at hSw)
       refine cq 30 (.tmp 14) ?_ g14 (ah pk uk) _ underlying30 rfl a2L.out ?_ ?_
       ·rfl
       ·rfl
       exact UK.out.keep hSw
      try simp only[Act.put,aK,aL,aM]
      refine rn 16 (by kernel_rfl) rfl (by rfl) (fun K hK=>?_)
      go_simp
      refine(jw uk qk pk _ K8.out a2v.out (HSK.out _ hHeld) (HSL.out _ hHeld)).mono ?_
      rintro e w19 ⟨rfl,hb⟩
      have F1:=h_ (hHeld.trans (hb.mono hHeld.size))
      clear hb
      refine hK.out _ _ ?_ (fun hHeld=>?_)
      ·first|exact hHeld|exact aJ (aG _)|exact F2.out|exact F1.out
      clear hK K
      try simp only[Act.put,aK,aL,aM]
      refine tq 17 rfl ?_ (fun wS hSw=>?_) ?_
      rotate_left
      ·(try dsimp only at hSw);go_simp;first|done|with_reducible rfl
      try simp only[Act.put,aK,aL,aM]
      refine tq 18 rfl ?_ (fun wS hSw=>?_) ?_
      rotate_left
      ·(try dsimp only at hSw);go_simp;first|done|with_reducible rfl
      try simp only[Act.put,aK,aL,aM]
      refine tq 19 rfl ?_ (fun wS hSw=>?_) ?_
      rotate_left
      ·(try dsimp only at hSw);go_simp;first|done|with_reducible rfl
      try simp only[Act.put,aK,aL,aM]
      refine tq 20 rfl ?_ (fun wS hSw=>?_) ?_
      rotate_left
      ·(try dsimp only at hSw);go_simp;first|done|with_reducible rfl
      try simp only[Act.put,aK,aL,aM]
      refine tq 21 rfl ?_ (fun wS hSw=>?_) ?_
      rotate_left
      ·(try dsimp only at hSw)
       refine aF 33 (.tmp 121) ?_ gb 0 (.slice (some ⟨ib,0,none⟩) M cb) _ underlying33 rfl ?_ ?_
       ·rfl
       ·rfl
       exact(WK.out _ hSw).1
      try simp only[Act.put,aK,aL,aM]
      refine tq 22 rfl ?_ (fun wS hSw=>?_) ?_
      rotate_left
      ·(try dsimp only at hSw);go_simp;first|done|with_reducible rfl
      try simp only[Act.put,aK,aL,aM]
      refine tq 23 rfl ?_ (fun wS hSw=>?_) ?_
      rotate_left
      ·(try dsimp only at hSw);go_simp;first|done|with_reducible rfl
      try simp only[Act.put,aK,aL,aM]
      refine tq 24 rfl ?_ (fun wS hSw=>?_) ?_
      rotate_left
      ·(try dsimp only at hSw);go_simp;first|done|with_reducible rfl
      try simp only[Act.put,aK,aL,aM]
      refine tq 25 rfl ?_ (fun wS hSw=>?_) ?_
      rotate_left
      ·(try dsimp only at hSw)
       refine aF 28 (.tmp 125) ?_ ib (k*25+24) (wk) _ underlying28 rfl ?_ ?_
       ·rfl
       ·rfl
       exact(WK.out _ hSw).2.2.1
      try simp only[Act.put,aK,aL,aM]
      refine tq 26 rfl ?_ (fun wS hSw=>?_) ?_
      rotate_left
      ·(try dsimp only at hSw);go_simp;first|done|with_reducible rfl
      try simp only[Act.put,aK,aL,aM]
      refine tq 27 rfl ?_ (fun wS hSw=>?_) ?_
      rotate_left
      ·(try dsimp only at hSw);go_simp;first|done|with_reducible rfl
      try simp only[Act.put,aK,aL,aM]
      refine tq 28 rfl ?_ (fun wS hSw=>?_) ?_
      rotate_left
      ·(try dsimp only at hSw);go_simp;first|done|with_reducible rfl
      try simp only[Act.put,aK,aL,aM]
      refine tq 29 rfl ?_ (fun wS hSw=>?_) ?_
      rotate_left
      ·(try dsimp only at hSw);go_simp;first|done|with_reducible rfl
      try simp only[Act.put,aK,aL,aM]
      refine tq 30 rfl ?_ (fun wS hSw=>?_) ?_
      rotate_left
      ·(try dsimp only at hSw)
       refine aF 28 (.tmp 130) ?_ qb (qo+k*8+1) (wv) _ underlying28 rfl ?_ ?_
       ·rfl
       ·rfl
       exact(WK.out _ hSw).2.2.2
      try simp only[Act.put,aK,aL,aM]
      refine rn 31 (by kernel_rfl) rfl (by rfl) (fun K hK=>?_)
      go_simp
      refine(ln c.words c.words wk wv _ _ _ (HWK.out _ hHeld) (HWV.out _ hHeld)).mono ?_
      rintro e w20 ⟨rfl,hb⟩
      rw[show decide (c.words=c.words)=true from decide_eq_true rfl]
      have F2:=h_ (hHeld.trans (hb.mono hHeld.size))
      clear hb
      refine hK.out _ _ ?_ (fun hHeld=>?_)
      ·first|exact hHeld|exact aJ (aG _)|exact F2.out|exact F1.out
      clear hK K
      try simp only[Act.put,aK,aL,aM]
      refine tq 32 rfl ?_ (fun wS hSw=>?_) ?_
      rotate_left
      ·(try dsimp only at hSw);go_simp;first|done|with_reducible rfl
      try simp only[Act.put,aK,aL,aM]
      refine tq 33 rfl ?_ (fun wS hSw=>?_) ?_
      rotate_left
      ·(try dsimp only at hSw);go_simp;first|done|with_reducible rfl
      try simp only[Act.put,aK,aL,aM]
      refine wpAnyH_done (by kernel_rfl) ?_ _
      go_wp2_with fail
      go_roundw
      case rel=>exact⟨k+1,by omega,by go_num,h_ (fF.out.trans (F2.out.mono fF.out.size))⟩
      case measure=>simp[intOf];omega
    obtain rfl:k=M:=by omega
    have BW:=h_ (BZ.out.trans (BR.out.mono BZ.out.size))
    go_wp2_with (first
     |((with_reducible refine dZ ?_);refine dB (by rfl) (.tmp 6) rfl _ pv u H8.out rfl (UZ.out.keep BR.out) ?_)
     |(go_at_call 11;refine(HI0.out pv _).mono ?_;rintro e w8 ⟨v0,rfl,ir,hb⟩;obtain⟨a0,c0,rfl⟩:=ir.len;have B8:=h_ (BW.out.trans (hb.mono BW.out.size));clear ir hb)
     |fail)
    rw[UY]
    go_wp2_with fail
    go_ret
    exact⟨rfl,B8.out⟩
end Go.Proofs.YtmndlfglgcioeaaGreatDoor
