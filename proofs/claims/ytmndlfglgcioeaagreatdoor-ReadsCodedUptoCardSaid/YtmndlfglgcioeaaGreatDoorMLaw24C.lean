/- The walk of ReadsCoded, for texts up to 1048576 bytes. -/
import Derived.Test.YtmndlfglgcioeaaGreatDoorGRdsL
import Derived.Test.YtmndlfglgcioeaaGreatDoorGEmB
import Derived.Test.YtmndlfglgcioeaaGreatDoorGNumT
set_option maxHeartbeats 40000000
namespace Go.Proofs.YtmndlfglgcioeaaGreatDoor
open Tryz
open Go.RowKit
set_option maxRecDepth 10000
theorem me {o:Oper} {a:Act} {w:World} {K:Act->World->Prop} {Q:Exit->Act->World->Prop} (x:Operand) (ho:o.op=.convert 9 50 x) (l:Bytes) (hx:a.eval x=S l) (hl:l.length<=maxLen)
  (h:∀ v' w',Sl w'.heap.size w' v' (Lib.byteCells l)->Below w.heap.size w w'->K (a.put o.dst v') w'):Oper.wp prog o a w K Q:=by
 obtain⟨v',w',hr,hs,_,hb⟩:=yl l w hl
 exact mf _ _ x ho (S l) hx hr (h v' w' hs hb)
theorem Gj (l:Bytes) {j:Nat} (hj:j<l.length):jR (l.take (j+1))=jR (l.take j)++mz l[j].toNat:=by
 rw[List.take_add_one,az hj]
 show jR (l.take j++[l[j]])=_
 unfold jR
 rw[dP]
 simp
theorem oU:∀ l:Bytes,(jR l).length<=6*l.length
 | []=>ae _
 |x::r=>by
  have ih:=oU r
  have h1:(Lib.decDigits x.toNat).length<=3:=jn 2 x.toNat (by have:=x.toNat_lt;omega)
  show(mz x.toNat++jR r).length<=_
  unfold mz
  simp only[af,ag,aQ]
  omega
theorem readsCoded_walk (kind:Int) (t:ByteArray) (v:Value) (l:Bytes) (w:World) (_:(Lit.int .i64 kind).wf=true) (_:t.size<=maxLen) (hv:Sl w.heap.size w v (Lib.byteCells l)) (ub:t.size<=1048576) (hE:Env w) :
  Calls prog 5 #[.int .i64 kind,.string t,v] w fun e w'=>e=.returned (.bool true)∧Below w.heap.size w w':=by
 have uF:=h_ (ii w hE)
 have hba:=fun(W:World) (hW:Below w.heap.size w W)=>kP t W ub (hE.below hW)
 have HE:=h_ hE
 have HV:=h_ hv
 obtain⟨av,cv,rfl⟩:∃ a c,v=.slice a l.length c:=by
  rcases ud hv with⟨rfl,a,c,rfl⟩|⟨b,o,c,_,_,rfl,_⟩
  ·exact⟨a,c,rfl⟩
  exact⟨_,c,rfl⟩
 obtain⟨L,hL⟩:=ap (l.length)
 have HL:=h_ hL
 rw[<-hL]at HV ⊢
 clear hv hL
 cases hb:gv (ls t)with
 |none =>
  rw[hb]at hba
  have lA:=h_ (show ∀W,Below w.heap.size w W->Calls prog 10 #[.string t] W fun e w'=>e=.returned (.tuple #[.agg (ah aD U0),.bool false])∧Below W.heap.size W w' from hba)
  clear hba hb hE
  go_enter func5,ntmps5
  go_wp2_with (first
   |(go_at_call 9;refine(uF.out).mono ?_;rintro e w1 ⟨rfl,hb⟩;have B1:=h_ hb;clear hb)
   |(go_at_call 10;refine(lA.out _ B1.out).mono ?_;rintro e w2 ⟨rfl,hb⟩;have B2:=h_ (B1.out.trans (hb.mono B1.out.size));clear hb)
   |((with_reducible refine dZ ?_);refine aE rfl 30 rfl _ _ (cD _) ?_;refine cN rfl (.tmp 8) (.tmp 16) rfl aD U0 rfl rfl rfl rfl rfl ?_;intro w3 h3 hb;have B3:=h_ (B2.out.trans (hb.mono B2.out.size));clear h3 hb)
   |fail)
  go_ret
  exact⟨rfl,B3.out⟩
 |some u =>
  rw[hb]at hba
  obtain⟨q,hq⟩:=ap (decide (t.size<=300))
  have lA:=h_ (show ∀W,Below w.heap.size w W->Calls prog 10 #[.string t] W fun e w'=>∃ pv,e=.returned (.tuple #[.agg (ah pv u),.bool q])∧w'.ownsRow W.heap.size 9 1 pv u.path.length (Strs u.path)∧Below W.heap.size W w' from by rw[hq];exact hba)
  have H8:=h_ (mD hb)
  have Oa:=h_ hb
  have HQ:=h_ hq
  clear hba hb hE hq
  go_enter func5,ntmps5
  go_upto_region 3 with(first
   |(go_at_call 9;refine(uF.out).mono ?_;rintro e w1 ⟨rfl,hb⟩;have B1:=h_ hb;clear hb)
   |(go_at_call 10;refine(lA.out _ B1.out).mono ?_;rintro e w2 ⟨pv,rfl,oo,hb⟩;have O2:=h_ oo;have B2:=h_ (B1.out.trans (hb.mono B1.out.size));clear hb oo)
   |((with_reducible refine dZ ?_);refine aE rfl 30 rfl _ _ (cD _) ?_;refine cN rfl (.tmp 8) (.tmp 16) rfl pv u H8.out (aS O2.out) rfl rfl rfl ?_;intro w3 h3 hb;have U3:=h_ h3;have B3:=h_ (B2.out.trans (hb.mono B2.out.size));have O3:=h_ (own_below' O2.out hb);clear h3 hb)
   |fail)
  obtain⟨g8,SX⟩:=ap (w2.heap.size)
  rw[<-SX]at U3 ⊢
  clear SX B1 B2 O2 uF lA
  cases q with
  |false =>
   go_wp2_with fail
   go_ret
   exact⟨rfl,B3.out⟩
  |true =>
   have htl:(ls t).length<=300:=by rw[de];exact of_decide_eq_true HQ.out.symm
   by_cases h3:200<L
   ·have h3':(200:Int)<(L:Int):=by omega
    go_wp2_with fail
    go_ret
    exact⟨rfl,B3.out⟩
   have h3':¬ (200:Int)<(L:Int):=by omega
   have hU:=pR (s:=ls t) (by omega) Oa.out
   have DX:=h_ (show L=l.length from HL.out)
   obtain⟨R,hR⟩:=ap (rG kind u l)
   have gW:=h_ (show R.items.length<=1000000000 by have:=Nj kind u l;rw[hR];have:=HL.out;omega)
   obtain⟨cd,hcd⟩:=ap (jR l)
   have qS:=h_ (show cd.length<=maxLen by have:=oU l;rw[hcd];have:=HL.out;unfold maxLen;omega)
   have uZ:=h_ (show cd.length<=1200 by have:=oU l;rw[hcd];have:=HL.out;omega)
   obtain⟨lb,hlb⟩:=ap (bs l)
   have pT:=h_ hlb
   have XS:=h_ (fun(h:∀ x∈l,1<=x.toNat∧x.toNat<128∧x≠38) (ev:Value) W (hb:Below w.heap.size w W) (hev:Sl W.heap.size W ev (Lib.byteCells cd))=>(show Calls prog 17 #[ev] W fun e w'=>e=.returned (.string lb)∧Below W.heap.size W w' from by
    have h2:=jc cd ev W hev (by have:=uZ.out;omega) (HE.out.below hb)
    rw[hcd,AN (fun x hx=>⟨(h x hx).1,(h x hx).2.1⟩),show S l=.string lb by rw[hlb]]at h2
    exact h2))
   have rI:=h_ (fun(h:∀ x∈l,1<=x.toNat∧x.toNat<128∧x≠38) (pv ev:Value) W (hb:Below w.heap.size w W) (hpv:Sl W.heap.size W pv (u.path.map S)) (hev:Sl W.heap.size W ev (Lib.byteCells cd))=>(show Calls prog 19 #[.int .i64 kind,.agg (ah pv u),ev] W (eE W R)from by
    have h2:=jY kind u pv cd ev W H8.out hpv hU.b hev (by have:=uZ.out;omega) (HE.out.below hb)
    rw[hcd,AN (fun x hx=>⟨(h x hx).1,(h x hx).2.1⟩),<-hR]at h2
    exact h2))
   have yS:=h_ (fun(h:∀ x∈l,1<=x.toNat∧x.toNat<128∧x≠38) (pv:Value) W (hb:Below w.heap.size w W) (hpv:Sl W.heap.size W pv (u.path.map S))=>(show Calls prog 19 #[.int .i64 kind,.agg (ah pv u),.slice av L cv] W (eE W R)from by
    have h2:=jY kind u pv l (.slice av L cv) W H8.out hpv hU.b ((HV.out.below hb).more hb.size) (by have:=HL.out;omega) (HE.out.below hb)
    rw[Rg h,<-hR]at h2
    exact h2))
   have FR:=h_ (fun(k:Nat) W (hk:k<256)=>v8 k W (by omega))
   have HCD:=h_ hcd
   clear hU hR hcd hlb htl
   go_wp2_with fail
   go_loopw [10,11] (fun sv iv wr=>∃ (j:Nat) (c:ByteArray),j<=L∧iv=.int .i64 j∧sv=.string c∧Hid (c=bs (jR (l.take j)))∧Hid (∀i (hi:i<l.length),i<j->1<=l[i].toNat∧l[i].toNat<128∧l[i]≠38)∧Hid (Below w3.heap.size w3 wr)) (fun _ i _=>L-(intOf i).toNat)
   case atStart=>exact⟨0,⟨#[]⟩,aO _,rfl,rfl,h_ rfl,h_ (fun i _ h=>absurd h (bE _)),h_ (Below.refl _ _)⟩
   case round =>
    obtain⟨j,c,hj,rfl,rfl,HC,u4,BR⟩:=hrel
    by_cases hlt:j<L
    ·have hjl:j<l.length:=by have:=DX.out;omega
     rcases ud HV.out with⟨hnil,_⟩|⟨b,o,cc,hbl,hcc,hve,hba⟩
     ·rw[hnil]at hjl;exact absurd hjl (bE _)
     injection hve with Vn x1 hcv
     clear x1
     have hcell:wr.cell? ⟨b,o+j,none⟩=some (.int .u8 (l[j].toNat:Int)):=by
      have h1:=hba j l[j] (az hjl)
      exact((B3.out.trans (BR.out.mono B3.out.size)).cell (p:=⟨b,o+j,none⟩) hbl).trans h1
     obtain⟨k,hk⟩:=ap (l[j].toNat)
     have Zx:k<256:=by rw[hk];exact l[j].toNat_lt
     rw[<-hk]at hcell
     subst Vn
     clear hba hcv hbl hcc
     by_cases h0:k=0
     ·subst h0
      clear hk
      go_wp2_with fail
      go_ret
      exact⟨rfl,B3.out.trans (BR.out.mono B3.out.size)⟩
     have q0:((k:Int)==0)=false:=by simp;omega
     have n0:¬ (k:Int)=0:=by omega
     by_cases h127:127<k
     ·have a0o:(127:Int)<(k:Int):=by omega
      clear hk h0
      go_wp2_with fail
      go_ret
      exact⟨rfl,B3.out.trans (BR.out.mono B3.out.size)⟩
     have a0o:¬ (127:Int)<(k:Int):=by omega
     by_cases GG:k=38
     ·subst GG
      clear hk h0 h127 n0 q0 a0o
      go_wp2_with fail
      go_ret
      exact⟨rfl,B3.out.trans (BR.out.mono B3.out.size)⟩
     have q38:((k:Int)==38)=false:=by simp;omega
     have n38:¬ (k:Int)=38:=by omega
     have rr:=h_ (show ∀i (hi:i<l.length),i<j+1->1<=l[i].toNat∧l[i].toNat<128∧l[i]≠38 from fun i hi h=>by
      by_cases he:i=j
      ·subst he
       refine⟨by omega,by omega,fun e=>GG ?_⟩
       rw[hk,e]
       rfl
      exact u4.out i hi (by omega))
     obtain⟨db,hdb⟩:=ap (bs (Lib.decDigits k))
     have hdl:db.size<=3:=by rw[hdb,aB];exact jn 2 k (by omega)
     have hcl:c.size<=1200:=by
      rw[HC.out,aB]
      have:=oU (l.take j)
      rw[aA]at this
      omega
     obtain⟨c1,hc1⟩:=ap (c++(⟨#[38,35]⟩:ByteArray))
     obtain⟨c2,hc2⟩:=ap (c1++db)
     obtain⟨c3,hc3⟩:=ap (c2++(⟨#[59]⟩:ByteArray))
     have hs1:c1.size<=1202:=by rw[hc1,ByteArray.size_append];show _+2<=_;omega
     have hs2:c2.size<=1205:=by rw[hc2,ByteArray.size_append];omega
     have ZI:¬ 9223372036854775807<c.size+2:=by omega
     have ZJ:¬ 9223372036854775807<c1.size+db.size:=by omega
     have a87:¬ 9223372036854775807<c2.size+1:=by omega
     have Xv:=h_ (show c3=bs (jR (l.take (j+1))) by
      rw[Gj l hjl,<-hk,hc3,hc2,hc1,HC.out,hdb]
      unfold mz
      rw[<-gO,<-gO,<-gO,ByteArray.append_assoc,ByteArray.append_assoc]
      rfl)
     have SU:=hc1.symm
     have SV:=hc2.symm
     have a6q:=hc3.symm
     have HT:=h_ (fun W=>(show Calls prog 16 #[.int .i64 (k:Int)] W fun e w'=>e=.returned (.string db)∧Below W.heap.size W w' from by rw[hdb];exact FR.out k W Zx))
     have hwk:IntKind.i64.wrap (k:Int)=(k:Int):=IntWalk.i64_in _ (by omega)
     clear hk h0 GG h127 hdb hc1 hc2 hc3 hs1 hs2 hdl hcl
     go_wp2_with (first
      |(go_at_call 16;refine(HT.out _).mono ?_;rintro e w4 ⟨rfl,hb⟩;have B4:=h_ (BR.out.trans (hb.mono BR.out.size));clear hb)
      |fail)
     go_roundw
     case rel=>exact⟨j+1,c3,by omega,by go_num,rfl,Xv,rr,B4⟩
     case measure=>simp[intOf];omega
    obtain rfl:j=L:=by omega
    have HZ:=h_ (show ∀x∈l,1<=x.toNat∧x.toNat<128∧x≠38 from fun x hx=>by
     obtain⟨i,hi,rfl⟩:=gY.mp hx
     exact u4.out i hi (by rw[DX.out];exact hi))
    have hcd:c=bs cd:=by rw[HC.out,HCD.out,DX.out,dY]
    subst hcd
    obtain⟨wz,hwz⟩:=ap (wr)
    rw[<-hwz]at BR ⊢
    clear hwz HC u4
    have BZ:=h_ (B3.out.trans (BR.out.mono B3.out.size))
    have UZ:=h_ (U3.out.keep BR.out)
    have OZ:=h_ (own_below' O3.out BR.out)
    have HVZ:=h_ ((HV.out.below BZ.out).more BZ.out.size)
    have Ea:=h_ (fun(ev:Value) W (hb:Below wz.heap.size wz W) hev=>XS.out HZ.out ev W (BZ.out.trans (hb.mono BZ.out.size)) hev)
    have uK:=h_ (fun(ev:Value) W (hb:Below wz.heap.size wz W) hev=>rI.out HZ.out pv ev W (BZ.out.trans (hb.mono BZ.out.size)) (((Sl.bL (cI OZ.out)).below hb).more hb.size) hev)
    have Bg:=h_ (fun W (hb:Below wz.heap.size wz W)=>yS.out HZ.out pv W (BZ.out.trans (hb.mono BZ.out.size)) (((Sl.bL (cI OZ.out)).below hb).more hb.size))
    have u7:=h_ (show(prog.info? 30).map (·.size)=some (ah pv u).size by rw[eL H8.out];exact dq)
    clear XS rI yS FR B3 U3 O3
    go_upto_region 12 with fail
    refine wp_region_held_drew (S:=fun W=>Below wz.heap.size wz W) (by kernel_rfl) (by first|exact hHeld|exact aJ (aG _)|exact DZ.out|exact DA.out|exact DB.out|exact DC.out|exact DV.out|exact DE.out) (fun hHeld=>?_)
    refine tq 0 rfl ?_ (fun wS hSw=>?_) ?_
    rotate_left
    ·(try dsimp only at hSw);go_simp;first|done|with_reducible rfl
    try simp only[Act.put,aK,aL,aM]
    refine tq 1 rfl ?_ (fun wS hSw=>?_) ?_
    rotate_left
    ·(try dsimp only at hSw);go_simp;first|done|with_reducible rfl
    try simp only[Act.put,aK,aL,aM]
    refine tq 2 rfl ?_ (fun wS hSw=>?_) ?_
    rotate_left
    ·(try dsimp only at hSw);go_simp;first|done|with_reducible rfl
    try simp only[Act.put,aK,aL,aM]
    refine tq 5 rfl ?_ (fun wS hSw=>?_) ?_
    rotate_left
    ·(try dsimp only at hSw);go_simp;first|done|with_reducible rfl
    try simp only[Act.put,aK,aL,aM]
    refine rn2 3 6 (by kernel_rfl) rfl (by rfl) ?_ rfl (by rfl) ?_
    ·intro K hK
     refine me (.tmp 64) rfl cd rfl qS.out ?_
     intro ev1 w1x hs1 hb
     have DE:=h_ (hHeld.trans (hb.mono hHeld.size));have SE1:=h_ hs1
     clear hs1 hb
     refine hK.out _ _ ?_ (fun hHeld=>?_)
     ·first|exact hHeld|exact aJ (aG _)|exact DZ.out|exact DA.out|exact DB.out|exact DC.out|exact DV.out|exact DE.out
     clear hK K
     try simp only[Act.put,aK,aL,aM]
     refine rn2 4 6 (by kernel_rfl) rfl (by rfl) ?_ rfl (by rfl) ?_
     ·intro K hK
      go_simp
      refine(Ea.out ev1 _ hHeld SE1.out).mono ?_
      rintro e w2x ⟨rfl,hb⟩
      have DV:=h_ (hHeld.trans (hb.mono hHeld.size))
      clear hb
      refine hK.out _ _ ?_ (fun hHeld=>?_)
      ·first|exact hHeld|exact aJ (aG _)|exact DZ.out|exact DA.out|exact DB.out|exact DC.out|exact DV.out|exact DE.out
      clear hK K
      try simp only[Act.put,aK,aL,aM]
      refine rn 6 (by kernel_rfl) rfl (by rfl) (fun K hK=>?_)
      refine mf 50 9 (.tmp 67) rfl _ rfl (mc underlying50 underlying5 underlying9 (HVZ.out.below hHeld)) ?_
      rw[<-pT.out]
      refine hK.out _ _ ?_ (fun hHeld=>?_)
      ·first|exact hHeld|exact aJ (aG _)|exact DZ.out|exact DA.out|exact DB.out|exact DC.out|exact DV.out|exact DE.out
      clear hK K
      try simp only[Act.put,aK,aL,aM]
      refine tq 7 rfl ?_ (fun wS hSw=>?_) ?_
      rotate_left
      ·(try dsimp only at hSw);go_simp;first|done|with_reducible rfl
      try simp only[Act.put,aK,aL,aM]
      refine tq 8 rfl ?_ (fun wS hSw=>?_) ?_
      rotate_left
      ·(try dsimp only at hSw);go_simp;first|done|with_reducible rfl
      try simp only[Act.put,aK,aL,aM]
      refine tq 9 rfl ?_ (fun wS hSw=>?_) ?_
      rotate_left
      ·(try dsimp only at hSw);go_simp;first|done|with_reducible rfl
      try simp only[Act.put,aK,aL,aM]
      refine tq 10 rfl ?_ (fun wS hSw=>?_) ?_
      rotate_left
      ·(try dsimp only at hSw);go_simp;first|done|with_reducible rfl
      try simp only[Act.put,aK,aL,aM]
      refine tq 11 rfl ?_ (fun wS hSw=>?_) ?_
      rotate_left
      ·(try dsimp only at hSw)
       refine cq 30 (.tmp 8) ?_ g8 (ah pv u) _ underlying30 rfl u7.out ?_ ?_
       ·rfl
       ·rfl
       exact UZ.out.keep hSw
      try simp only[Act.put,aK,aL,aM]
      refine tq 12 rfl ?_ (fun wS hSw=>?_) ?_
      rotate_left
      ·(try dsimp only at hSw);go_simp;first|done|with_reducible rfl
      try simp only[Act.put,aK,aL,aM]
      refine tq 15 rfl ?_ (fun wS hSw=>?_) ?_
      rotate_left
      ·(try dsimp only at hSw);go_simp;first|done|with_reducible rfl
      try simp only[Act.put,aK,aL,aM]
      refine tq 16 rfl ?_ (fun wS hSw=>?_) ?_
      rotate_left
      ·(try dsimp only at hSw)
       refine cq 30 (.tmp 8) ?_ g8 (ah pv u) _ underlying30 rfl u7.out ?_ ?_
       ·rfl
       ·rfl
       exact UZ.out.keep hSw
      try simp only[Act.put,aK,aL,aM]
      refine tq 17 rfl ?_ (fun wS hSw=>?_) ?_
      rotate_left
      ·(try dsimp only at hSw);go_simp;first|done|with_reducible rfl
      try simp only[Act.put,aK,aL,aM]
      refine rn 13 (by kernel_rfl) rfl (by rfl) (fun K hK=>?_)
      refine me (.tmp 74) rfl cd rfl qS.out ?_
      intro YT w3x hs2 hb
      have DC:=h_ (hHeld.trans (hb.mono hHeld.size));have SE2:=h_ hs2
      try have IB:=h_ (IB.out.below hb)
      clear hs2 hb
      refine hK.out _ _ ?_ (fun hHeld=>?_)
      ·first|exact hHeld|exact aJ (aG _)|exact DZ.out|exact DA.out|exact DB.out|exact DC.out|exact DV.out|exact DE.out
      clear hK K
      try simp only[Act.put,aK,aL,aM]
      refine rn 14 (by kernel_rfl) rfl (by rfl) (fun K hK=>?_)
      go_simp
      refine(uK.out YT _ hHeld SE2.out).mono ?_
      rintro e w4x ⟨va,rfl,Mh,hb⟩
      have DA:=h_ (hHeld.trans (hb.mono hHeld.size));have IA:=h_ Mh
      try have IB:=h_ (IB.out.below hb)
      clear hb Mh
      refine hK.out _ _ ?_ (fun hHeld=>?_)
      ·first|exact hHeld|exact aJ (aG _)|exact DZ.out|exact DA.out|exact DB.out|exact DC.out|exact DV.out|exact DE.out
      clear hK K
      try simp only[Act.put,aK,aL,aM]
      refine rn 18 (by kernel_rfl) rfl (by rfl) (fun K hK=>?_)
      go_simp
      refine(Bg.out _ hHeld).mono ?_
      rintro e w5x ⟨vb,rfl,Mi,hb⟩
      have DB:=h_ (hHeld.trans (hb.mono hHeld.size));have IB:=h_ Mi
      try have IA:=h_ (IA.out.below hb)
      try have SE2:=h_ ((SE2.out.below hb).more hb.size)
      clear hb Mi
      refine hK.out _ _ ?_ (fun hHeld=>?_)
      ·first|exact hHeld|exact aJ (aG _)|exact DZ.out|exact DA.out|exact DB.out|exact DC.out|exact DV.out|exact DE.out
      clear hK K
      try simp only[Act.put,aK,aL,aM]
      refine rn 19 (by kernel_rfl) rfl (by rfl) (fun K hK=>?_)
      go_simp
      refine(lq R va vb _ _ _ IA.out IB.out gW.out).mono ?_
      rintro e w6x ⟨rfl,hb⟩
      have DZ:=h_ (hHeld.trans (hb.mono hHeld.size))
      clear hb
      refine hK.out _ _ ?_ (fun hHeld=>?_)
      ·first|exact hHeld|exact aJ (aG _)|exact DZ.out|exact DA.out|exact DB.out|exact DC.out|exact DV.out|exact DE.out
      clear hK K
      try simp only[Act.put,aK,aL,aM]
      refine tq 20 rfl ?_ (fun wS hSw=>?_) ?_
      rotate_left
      ·(try dsimp only at hSw);go_simp;first|done|with_reducible rfl
      try simp only[Act.put,aK,aL,aM]
      refine tq 21 rfl ?_ (fun wS hSw=>?_) ?_
      rotate_left
      ·(try dsimp only at hSw);go_simp;first|done|with_reducible rfl
      try simp only[Act.put,aK,aL,aM]
      refine wpAnyH_done (by kernel_rfl) ?_ _
      go_wp2_with fail
      go_ret
      exact⟨rfl,BZ.out.trans (DZ.out.mono BZ.out.size)⟩
     intro K hK
     refine mf 50 9 (.tmp 67) rfl _ rfl (mc underlying50 underlying5 underlying9 (HVZ.out.below hHeld)) ?_
     rw[<-pT.out]
     refine hK.out _ _ ?_ (fun hHeld=>?_)
     ·first|exact hHeld|exact aJ (aG _)|exact DZ.out|exact DA.out|exact DB.out|exact DC.out|exact DV.out|exact DE.out
     clear hK K
     try simp only[Act.put,aK,aL,aM]
     refine rn 4 (by kernel_rfl) rfl (by rfl) (fun K hK=>?_)
     go_simp
     refine(Ea.out ev1 _ hHeld SE1.out).mono ?_
     rintro e w2x ⟨rfl,hb⟩
     have DV:=h_ (hHeld.trans (hb.mono hHeld.size))
     clear hb
     refine hK.out _ _ ?_ (fun hHeld=>?_)
     ·first|exact hHeld|exact aJ (aG _)|exact DZ.out|exact DA.out|exact DB.out|exact DC.out|exact DV.out|exact DE.out
     clear hK K
     try simp only[Act.put,aK,aL,aM]
     refine tq 7 rfl ?_ (fun wS hSw=>?_) ?_
     rotate_left
     ·(try dsimp only at hSw);go_simp;first|done|with_reducible rfl
     try simp only[Act.put,aK,aL,aM]
     refine tq 8 rfl ?_ (fun wS hSw=>?_) ?_
     rotate_left
     ·(try dsimp only at hSw);go_simp;first|done|with_reducible rfl
     try simp only[Act.put,aK,aL,aM]
     refine tq 9 rfl ?_ (fun wS hSw=>?_) ?_
     rotate_left
     ·(try dsimp only at hSw);go_simp;first|done|with_reducible rfl
     try simp only[Act.put,aK,aL,aM]
     refine tq 10 rfl ?_ (fun wS hSw=>?_) ?_
     rotate_left
     ·(try dsimp only at hSw);go_simp;first|done|with_reducible rfl
     try simp only[Act.put,aK,aL,aM]
     refine tq 11 rfl ?_ (fun wS hSw=>?_) ?_
     rotate_left
     ·(try dsimp only at hSw)
      refine cq 30 (.tmp 8) ?_ g8 (ah pv u) _ underlying30 rfl u7.out ?_ ?_
      ·rfl
      ·rfl
      exact UZ.out.keep hSw
     try simp only[Act.put,aK,aL,aM]
     refine tq 12 rfl ?_ (fun wS hSw=>?_) ?_
     rotate_left
     ·(try dsimp only at hSw);go_simp;first|done|with_reducible rfl
     try simp only[Act.put,aK,aL,aM]
     refine tq 15 rfl ?_ (fun wS hSw=>?_) ?_
     rotate_left
     ·(try dsimp only at hSw);go_simp;first|done|with_reducible rfl
     try simp only[Act.put,aK,aL,aM]
     refine tq 16 rfl ?_ (fun wS hSw=>?_) ?_
     rotate_left
     ·(try dsimp only at hSw)
      refine cq 30 (.tmp 8) ?_ g8 (ah pv u) _ underlying30 rfl u7.out ?_ ?_
      ·rfl
      ·rfl
      exact UZ.out.keep hSw
     try simp only[Act.put,aK,aL,aM]
     refine tq 17 rfl ?_ (fun wS hSw=>?_) ?_
     rotate_left
     ·(try dsimp only at hSw);go_simp;first|done|with_reducible rfl
     try simp only[Act.put,aK,aL,aM]
     refine rn 13 (by kernel_rfl) rfl (by rfl) (fun K hK=>?_)
     refine me (.tmp 74) rfl cd rfl qS.out ?_
     intro YT w3x hs2 hb
     have DC:=h_ (hHeld.trans (hb.mono hHeld.size));have SE2:=h_ hs2
     try have IB:=h_ (IB.out.below hb)
     clear hs2 hb
     refine hK.out _ _ ?_ (fun hHeld=>?_)
     ·first|exact hHeld|exact aJ (aG _)|exact DZ.out|exact DA.out|exact DB.out|exact DC.out|exact DV.out|exact DE.out
     clear hK K
     try simp only[Act.put,aK,aL,aM]
     refine rn 14 (by kernel_rfl) rfl (by rfl) (fun K hK=>?_)
     go_simp
     refine(uK.out YT _ hHeld SE2.out).mono ?_
     rintro e w4x ⟨va,rfl,Mh,hb⟩
     have DA:=h_ (hHeld.trans (hb.mono hHeld.size));have IA:=h_ Mh
     try have IB:=h_ (IB.out.below hb)
     clear hb Mh
     refine hK.out _ _ ?_ (fun hHeld=>?_)
     ·first|exact hHeld|exact aJ (aG _)|exact DZ.out|exact DA.out|exact DB.out|exact DC.out|exact DV.out|exact DE.out
     clear hK K
     try simp only[Act.put,aK,aL,aM]
     refine rn 18 (by kernel_rfl) rfl (by rfl) (fun K hK=>?_)
     go_simp
     refine(Bg.out _ hHeld).mono ?_
     rintro e w5x ⟨vb,rfl,Mi,hb⟩
     have DB:=h_ (hHeld.trans (hb.mono hHeld.size));have IB:=h_ Mi
     try have IA:=h_ (IA.out.below hb)
     try have SE2:=h_ ((SE2.out.below hb).more hb.size)
     clear hb Mi
     refine hK.out _ _ ?_ (fun hHeld=>?_)
     ·first|exact hHeld|exact aJ (aG _)|exact DZ.out|exact DA.out|exact DB.out|exact DC.out|exact DV.out|exact DE.out
     clear hK K
     try simp only[Act.put,aK,aL,aM]
     refine rn 19 (by kernel_rfl) rfl (by rfl) (fun K hK=>?_)
     go_simp
     refine(lq R va vb _ _ _ IA.out IB.out gW.out).mono ?_
     rintro e w6x ⟨rfl,hb⟩
     have DZ:=h_ (hHeld.trans (hb.mono hHeld.size))
     clear hb
     refine hK.out _ _ ?_ (fun hHeld=>?_)
     ·first|exact hHeld|exact aJ (aG _)|exact DZ.out|exact DA.out|exact DB.out|exact DC.out|exact DV.out|exact DE.out
     clear hK K
     try simp only[Act.put,aK,aL,aM]
     refine tq 20 rfl ?_ (fun wS hSw=>?_) ?_
     rotate_left
     ·(try dsimp only at hSw);go_simp;first|done|with_reducible rfl
     try simp only[Act.put,aK,aL,aM]
     refine tq 21 rfl ?_ (fun wS hSw=>?_) ?_
     rotate_left
     ·(try dsimp only at hSw);go_simp;first|done|with_reducible rfl
     try simp only[Act.put,aK,aL,aM]
     refine wpAnyH_done (by kernel_rfl) ?_ _
     go_wp2_with fail
     go_ret
     exact⟨rfl,BZ.out.trans (DZ.out.mono BZ.out.size)⟩
    intro K hK
    refine mf 50 9 (.tmp 67) rfl _ rfl (mc underlying50 underlying5 underlying9 (HVZ.out.below hHeld)) ?_
    rw[<-pT.out]
    refine hK.out _ _ ?_ (fun hHeld=>?_)
    ·first|exact hHeld|exact aJ (aG _)|exact DZ.out|exact DA.out|exact DB.out|exact DC.out|exact DV.out|exact DE.out
    clear hK K
    try simp only[Act.put,aK,aL,aM]
    refine rn 3 (by kernel_rfl) rfl (by rfl) (fun K hK=>?_)
    refine me (.tmp 64) rfl cd rfl qS.out ?_
    intro ev1 w1x hs1 hb
    have DE:=h_ (hHeld.trans (hb.mono hHeld.size));have SE1:=h_ hs1
    clear hs1 hb
    refine hK.out _ _ ?_ (fun hHeld=>?_)
    ·first|exact hHeld|exact aJ (aG _)|exact DZ.out|exact DA.out|exact DB.out|exact DC.out|exact DV.out|exact DE.out
    clear hK K
    try simp only[Act.put,aK,aL,aM]
    refine rn 4 (by kernel_rfl) rfl (by rfl) (fun K hK=>?_)
    go_simp
    refine(Ea.out ev1 _ hHeld SE1.out).mono ?_
    rintro e w2x ⟨rfl,hb⟩
    have DV:=h_ (hHeld.trans (hb.mono hHeld.size))
    clear hb
    refine hK.out _ _ ?_ (fun hHeld=>?_)
    ·first|exact hHeld|exact aJ (aG _)|exact DZ.out|exact DA.out|exact DB.out|exact DC.out|exact DV.out|exact DE.out
    clear hK K
    try simp only[Act.put,aK,aL,aM]
    refine tq 7 rfl ?_ (fun wS hSw=>?_) ?_
    rotate_left
    ·(try dsimp only at hSw);go_simp;first|done|with_reducible rfl
    try simp only[Act.put,aK,aL,aM]
    refine tq 8 rfl ?_ (fun wS hSw=>?_) ?_
    rotate_left
    ·(try dsimp only at hSw);go_simp;first|done|with_reducible rfl
    try simp only[Act.put,aK,aL,aM]
    refine tq 9 rfl ?_ (fun wS hSw=>?_) ?_
    rotate_left
    ·(try dsimp only at hSw);go_simp;first|done|with_reducible rfl
    try simp only[Act.put,aK,aL,aM]
    refine tq 10 rfl ?_ (fun wS hSw=>?_) ?_
    rotate_left
    ·(try dsimp only at hSw);go_simp;first|done|with_reducible rfl
    try simp only[Act.put,aK,aL,aM]
    refine tq 11 rfl ?_ (fun wS hSw=>?_) ?_
    rotate_left
    ·(try dsimp only at hSw)
     refine cq 30 (.tmp 8) ?_ g8 (ah pv u) _ underlying30 rfl u7.out ?_ ?_
     ·rfl
     ·rfl
     exact UZ.out.keep hSw
    try simp only[Act.put,aK,aL,aM]
    refine tq 12 rfl ?_ (fun wS hSw=>?_) ?_
    rotate_left
    ·(try dsimp only at hSw);go_simp;first|done|with_reducible rfl
    try simp only[Act.put,aK,aL,aM]
    refine tq 15 rfl ?_ (fun wS hSw=>?_) ?_
    rotate_left
    ·(try dsimp only at hSw);go_simp;first|done|with_reducible rfl
    try simp only[Act.put,aK,aL,aM]
    refine tq 16 rfl ?_ (fun wS hSw=>?_) ?_
    rotate_left
    ·(try dsimp only at hSw)
     refine cq 30 (.tmp 8) ?_ g8 (ah pv u) _ underlying30 rfl u7.out ?_ ?_
     ·rfl
     ·rfl
     exact UZ.out.keep hSw
    try simp only[Act.put,aK,aL,aM]
    refine tq 17 rfl ?_ (fun wS hSw=>?_) ?_
    rotate_left
    ·(try dsimp only at hSw);go_simp;first|done|with_reducible rfl
    try simp only[Act.put,aK,aL,aM]
    refine rn 13 (by kernel_rfl) rfl (by rfl) (fun K hK=>?_)
    refine me (.tmp 74) rfl cd rfl qS.out ?_
    intro YT w3x hs2 hb
    have DC:=h_ (hHeld.trans (hb.mono hHeld.size));have SE2:=h_ hs2
    try have IB:=h_ (IB.out.below hb)
    clear hs2 hb
    refine hK.out _ _ ?_ (fun hHeld=>?_)
    ·first|exact hHeld|exact aJ (aG _)|exact DZ.out|exact DA.out|exact DB.out|exact DC.out|exact DV.out|exact DE.out
    clear hK K
    try simp only[Act.put,aK,aL,aM]
    refine rn 14 (by kernel_rfl) rfl (by rfl) (fun K hK=>?_)
    go_simp
    refine(uK.out YT _ hHeld SE2.out).mono ?_
    rintro e w4x ⟨va,rfl,Mh,hb⟩
    have DA:=h_ (hHeld.trans (hb.mono hHeld.size));have IA:=h_ Mh
    try have IB:=h_ (IB.out.below hb)
    clear hb Mh
    refine hK.out _ _ ?_ (fun hHeld=>?_)
    ·first|exact hHeld|exact aJ (aG _)|exact DZ.out|exact DA.out|exact DB.out|exact DC.out|exact DV.out|exact DE.out
    clear hK K
    try simp only[Act.put,aK,aL,aM]
    refine rn 18 (by kernel_rfl) rfl (by rfl) (fun K hK=>?_)
    go_simp
    refine(Bg.out _ hHeld).mono ?_
    rintro e w5x ⟨vb,rfl,Mi,hb⟩
    have DB:=h_ (hHeld.trans (hb.mono hHeld.size));have IB:=h_ Mi
    try have IA:=h_ (IA.out.below hb)
    try have SE2:=h_ ((SE2.out.below hb).more hb.size)
    clear hb Mi
    refine hK.out _ _ ?_ (fun hHeld=>?_)
    ·first|exact hHeld|exact aJ (aG _)|exact DZ.out|exact DA.out|exact DB.out|exact DC.out|exact DV.out|exact DE.out
    clear hK K
    try simp only[Act.put,aK,aL,aM]
    refine rn 19 (by kernel_rfl) rfl (by rfl) (fun K hK=>?_)
    go_simp
    refine(lq R va vb _ _ _ IA.out IB.out gW.out).mono ?_
    rintro e w6x ⟨rfl,hb⟩
    have DZ:=h_ (hHeld.trans (hb.mono hHeld.size))
    clear hb
    refine hK.out _ _ ?_ (fun hHeld=>?_)
    ·first|exact hHeld|exact aJ (aG _)|exact DZ.out|exact DA.out|exact DB.out|exact DC.out|exact DV.out|exact DE.out
    clear hK K
    try simp only[Act.put,aK,aL,aM]
    refine tq 20 rfl ?_ (fun wS hSw=>?_) ?_
    rotate_left
    ·(try dsimp only at hSw);go_simp;first|done|with_reducible rfl
    try simp only[Act.put,aK,aL,aM]
    refine tq 21 rfl ?_ (fun wS hSw=>?_) ?_
    rotate_left
    ·(try dsimp only at hSw);go_simp;first|done|with_reducible rfl
    try simp only[Act.put,aK,aL,aM]
    refine wpAnyH_done (by kernel_rfl) ?_ _
    go_wp2_with fail
    go_ret
    exact⟨rfl,BZ.out.trans (DZ.out.mono BZ.out.size)⟩
end Go.Proofs.YtmndlfglgcioeaaGreatDoor
