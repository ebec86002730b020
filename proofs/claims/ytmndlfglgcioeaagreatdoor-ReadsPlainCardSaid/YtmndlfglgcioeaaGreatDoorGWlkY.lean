/- WlkY WlkW PrsK WlkZ RfrB RfrC SmrA: joined. -/
import Derived.Test.YtmndlfglgcioeaaGreatDoorGWlkT
import Derived.Test.YtmndlfglgcioeaaGreatDoorGWlkH
import Derived.Test.YtmndlfglgcioeaaGreatDoorGAthH
import Derived.Test.YtmndlfglgcioeaaGreatDoorGAthW
import Derived.Test.YtmndlfglgcioeaaGreatDoorGHlwA
import Derived.Test.YtmndlfglgcioeaaGreatDoorGTextA
import Derived.Test.YtmndlfglgcioeaaGreatDoorGWlkN
import Derived.Test.YtmndlfglgcioeaaGreatDoorGSixA
import Derived.Test.YtmndlfglgcioeaaGreatDoorGReg
set_option maxHeartbeats 40000000
namespace Go.Proofs.YtmndlfglgcioeaaGreatDoor
open Tryz
open Go.RowKit
set_option maxRecDepth 10000
theorem vq (s:Bytes):(ef s).length<=s.length:=aq (wN _) (qO _)
theorem wK (s:Bytes):(eJ s).rest.length<=s.length∧(eJ s).q.length<=s.length∧(eJ s).f.length<=s.length:=by
 have a:=gm 35 s
 have b:=gm 63 (bR 35 s).1
 have c:=gm 58 (bR 63 (bR 35 s).1).1
 unfold eJ
 dsimp only
 split <;>(dsimp only;omega)
theorem a0i (p:jP):(aT p).all (·.oneCell')=true:=all_oneCell_toArray (cs:=(aT p).toList) Fh
theorem oE {f:Func} {k m:Nat} (hf:f.results=#[.cell k 30,.tmp m]) {tmps:Array Value} {w0 w2:World} {b:Nat} {pv:Value} {u:Url} {q:Bool} {Post:Ending->World->Prop} (h8:u.host.six.length=8) (hk:tmps.getD k undef=.pointer (some ⟨b,0,none⟩)) (hm:tmps.getD m undef=.bool q)
  (i:OB w0 b 30 (ah pv u) w2) (hP:Post (.returned (.tuple #[.agg (ah pv u),.bool q])) w2) :
  bodyPost prog f Post Exit.ret {tmps:=tmps,defers:=[]} w2:=by
 have h2':tmps[k]?.getD undef=.pointer (some ⟨b,0,none⟩):=by simpa using hk
 have h3':tmps[m]?.getD undef=.bool q:=by simpa using hm
 have hl:=i.load (P:=prog) 30 _ underlying30 rfl (by rw[eL h8];exact dq)
 refine bodyPost_ret (v:=.tuple #[.agg (ah pv u),.bool q]) ?_ rfl hP
 simp[results,hf,asAddr,h2',h3',hl]
theorem uw (s:Bytes) (w:World) (hs:s.length<=1048576) (hE:Env w):Calls prog 28 #[.string (bs s)] w (vg w (gv s)):=by
 have hcl:=vq s
 obtain⟨p,hp⟩:=ap (eJ (ef s))
 have hsl:=wK (ef s)
 rw[<-hp]at hsl
 have hJ8:∀ u,d9 U0 p=some u->u.host.six.length=8:=fun u h=>mx (b:=U0) rfl h
 obtain⟨c,hc⟩:=ap (bs (ef s))
 have qS:=h_ (show ∀W,Calls prog 34 #[.string (bs s)] W fun e w'=>e=.returned (.string c)∧Below W.heap.size W w' from fun W=>by rw[hc];exact vp s W (by omega))
 have gF:=h_ (show ∀W,Below w.heap.size w W->Calls prog 33 #[.string c] W fun e w'=>e=.returned (.agg (aT p))∧Below W.heap.size W w' from fun W hb=>by rw[hc,hp];exact wI (ef s) W (by omega) (hE.below hb))
 have uK:=h_ (fun W (hb:Below w.heap.size w W)=>wQ U0 aD p W rfl Sl.nil ⟨by simp[U0],by simp[U0]⟩ (Tp (by omega)) (by omega) (by omega) (hE.below hb))
 obtain⟨R,hR⟩:=ap (gv s)
 rw[<-hR]
 unfold gv at hR
 rw[<-hp]at hR
 obtain⟨z,hz⟩:=ap (bs s)
 rw[<-hz]at qS ⊢
 have HR:=h_ hR
 have TI:=h_ hJ8
 clear hR hz hc hp hsl hcl hs hE hJ8
 go_enter func28,ntmps28
 go_upto_region 1 with(first
  |(refine aE rfl 30 rfl _ _ (cD _) ?_)
  |fail)
 have IA:=h_ (OB.fresh w 30 (ah aD U0))
 obtain⟨w1,hw1⟩:=ap (w.alloc (.cells (ah aD U0) 30))
 rw[<-hw1]at IA ⊢
 clear hw1
 go_upto_region 2 with(first
  |(go_at_call 34;refine(qS.out _).mono ?_;rintro e w2 ⟨rfl,hb⟩;have I2:=h_ (IA.out.below hb);clear hb)
  |(go_at_call 33;refine(gF.out _ I2.out.bq).mono ?_;rintro e w3 ⟨rfl,hb⟩;have I3:=h_ (I2.out.below hb);clear hb)
  |(refine aE rfl 68 rfl _ _ (Yk _) ?_)
  |(refine kf rfl 68 (.tmp 4) (.tmp 7) rfl (aT p) (aT P0) lk rfl (a0i p) rfl rfl rfl ?_;intro w4 h4 hb;have X4:=h_ h4;have I4:=h_ (I3.out.below hb);clear h4 hb)
  |fail)
 have d0:=X4.out.ak (j:=0) (v:=.bool p.fQ) rfl
 cases hS:p.fQ with
 |false =>
  rw[hS]at d0
  have cX:=h_ (show R=none by rw[HR.out,if_neg (by simp[hS])])
  clear hS
  go_wp2_with (first
   |(refine bG rfl 30 #[] rfl (.agg (ah aD U0)) #[] rfl rP ?_)
   |(refine eG rfl (.tmp 2) (.tmp 11) rfl w w.heap.size I4.out aD U0 rfl rfl rfl rfl ?_;intro w5 i5 _;have I5:=h_ i5;clear i5)
   |fail)
  rw[cX.out]
  exact oE (u:=U0) (q:=false) results28 rfl rfl rfl I5.out ⟨rfl,I5.out.bq⟩
 |true =>
  rw[hS]at d0
  have ru:=h_ (show R=d9 U0 p by rw[HR.out,if_pos hS])
  clear hS
  cases hJ:d9 U0 p with
  |none =>
   have cX:=h_ (show R=none by rw[ru.out,hJ])
   have rI:=h_ (fun W hb=>(show Calls prog 32 #[.agg (ah aD U0),.agg (aT p)] W fun e w'=>e=.returned (.tuple #[.agg (ah aD U0),.bool false])∧Below W.heap.size W w' from by have h:=uK.out W hb;rw[hJ]at h;exact h))
   clear hJ
   go_wp2_with (first
    |(refine bG rfl 30 #[] rfl (.agg (ah aD U0)) #[] rfl rP ?_)
    |(refine jq rfl (.tmp 4) rfl w3.heap.size p X4.out rfl ?_)
    |(go_at_call 32;refine(rI.out _ I4.out.bq).mono ?_;rintro e w5 ⟨rfl,hb⟩;have I5:=h_ (I4.out.below hb);clear hb)
    |(refine eG rfl (.tmp 2) (.tmp 15) rfl w w.heap.size I5.out aD U0 rfl rfl rfl rfl ?_;intro w6 i6 _;have I6:=h_ i6;clear i6)
    |fail)
   rw[cX.out]
   exact oE (u:=U0) (q:=false) results28 rfl rfl rfl I6.out ⟨rfl,I6.out.bq⟩
  |some u =>
   have cX:=h_ (show R=some u by rw[ru.out,hJ])
   have U8:=h_ (TI.out u hJ)
   have rI:=h_ (fun W hb=>(show Calls prog 32 #[.agg (ah aD U0),.agg (aT p)] W fun e w'=>∃ pv,e=.returned (.tuple #[.agg (ah pv u),.bool true])∧w'.ownsRow W.heap.size 9 1 pv u.path.length (Strs u.path)∧Below W.heap.size W w' from by have h:=uK.out W hb;rw[hJ]at h;exact h))
   clear hJ
   go_wp2_with (first
    |(refine bG rfl 30 #[] rfl (.agg (ah aD U0)) #[] rfl rP ?_)
    |(refine jq rfl (.tmp 4) rfl w3.heap.size p X4.out rfl ?_)
    |(go_at_call 32;refine(rI.out _ I4.out.bq).mono ?_;rintro e w5 ⟨pv,rfl,o5,hb⟩;have I5:=h_ (I4.out.below hb);have O5:=h_ (aU o5 (show w.heap.size+1<=_ from I4.out.lt));clear hb o5)
    |(refine eG rfl (.tmp 2) (.tmp 15) rfl w w.heap.size I5.out pv u U8.out (aS O5.out) rfl rfl ?_;intro w6 i6 t6;have I6:=h_ i6;have O6:=h_ (aU (t6.row O5.out (bB _)) (fb _));clear i6 t6)
    |fail)
   rw[cX.out]
   exact oE (u:=u) (q:=true) results28 U8.out rfl rfl I6.out ⟨pv,rfl,O6.out,I6.out.bq⟩
theorem a0F (w:World) (bv:Value) (u:Url):∃ W,(w.alloc (.cells (ah bv u) 30)).alloc (.cells (ah aD U0) 30)=W∧CB W w.heap.size 30 (ah bv u)∧OB w (w.heap.size+1) 30 (ah aD U0) W:=by
 have hx:=CB.new w 30 (ah bv u)
 have hb:=(Below.refl w.heap.size w).alloc (ae _) (.cells (ah bv u) 30)
 obtain⟨w1,hw1⟩:=ap (w.alloc (.cells (ah bv u) 30))
 have hz1:w1.heap.size=w.heap.size+1:=by rw[hw1];simp
 rw[<-hw1]at hx hb ⊢
 have hy:=CB.new w1 30 (ah aD U0)
 have hb2:=(Below.refl w1.heap.size w1).alloc (ae _) (.cells (ah aD U0) 30)
 rw[hz1]at hy
 exact⟨_,rfl,hx.keep hb2,OB.of hy (fb _) (fJ hb hb2)⟩
theorem vY (bu:Url) (bv:Value) (s:Bytes) (w:World) (h8:bu.host.six.length=8) (hbv:Sl w.heap.size w bv (bu.path.map S)) (hbs:Bs bu.path) (hs:s.length<=1048576) (hE:Env w):Calls prog 12 #[.agg (ah bv bu),.string (bs s)] w (vg w (mC bu s)):=by
 have hcl:=vq s
 obtain⟨p,hp⟩:=ap (eJ (ef s))
 have hsl:=wK (ef s)
 rw[<-hp]at hsl
 have TI:=h_ (fun u (h:d9 bu p=some u)=>mx h8 h)
 obtain⟨c,hc⟩:=ap (bs (ef s))
 have qS:=h_ (show ∀W,Calls prog 34 #[.string (bs s)] W fun e w'=>e=.returned (.string c)∧Below W.heap.size W w' from fun W=>by rw[hc];exact vp s W (by omega))
 have gF:=h_ (show ∀W,Below w.heap.size w W->Calls prog 33 #[.string c] W fun e w'=>e=.returned (.agg (aT p))∧Below W.heap.size W w' from fun W hb=>by rw[hc,hp];exact wI (ef s) W (by omega) (hE.below hb))
 have uK:=h_ (fun W (hb:Below w.heap.size w W)=>wQ bu bv p W h8 ((hbv.below hb).more hb.size) hbs (Tp (by omega)) (by omega) (by omega) (hE.below hb))
 have H8:=h_ h8
 show Calls _ _ _ _ (vg w (d9 bu (eJ (ef s))))
 rw[<-hp]
 obtain⟨z,hz⟩:=ap (bs s)
 rw[<-hz]at qS ⊢
 clear hz hc hp hsl hcl hs hE h8 hbv hbs
 obtain⟨W2,hw2,k1,k2⟩:=a0F w bv bu
 have K1:=h_ k1;have K2:=h_ k2;have HW2:=h_ hw2
 clear k1 k2 hw2
 have u7:=h_ (show(prog.info? 30).map (·.size)=some (ah bv bu).size by rw[eL H8.out];exact dq)
 cases hJ:d9 bu p with
 |none =>
  have rI:=h_ (fun W hb=>(show Calls prog 32 #[.agg (ah bv bu),.agg (aT p)] W fun e w'=>e=.returned (.tuple #[.agg (ah aD U0),.bool false])∧Below W.heap.size W w' from by have h:=uK.out W hb;rw[hJ]at h;exact h))
  clear hJ
  go_enter func12,ntmps12
  go_upto_region 1 with(first
   |(refine aE rfl 30 rfl _ _ (cD _) ?_)
   |fail)
  rw[HW2.out]
  have C1:=h_ (K1.out.keep (aJ (aG _)))
  have I1:=h_ (K2.out.below (aJ (aG _)))
  refine wp_region_held_drew (S:=fun W=>CB W w.heap.size 30 (ah bv bu)) (by kernel_rfl) (by with_reducible first|exact C5.out|exact C4.out|exact C3.out|exact C2.out|exact C1.out) (fun hHeld=>?_)
  refine tq 0 rfl ?_ (fun wS hSw=>?_) ?_
  rotate_left
  ·(try dsimp only at hSw)
   refine cq 30 (.tmp 2) ?_ w.heap.size (ah bv bu) _ underlying30 rfl u7.out ?_ ?_
   ·rfl
   ·rfl
   exact hSw
  try simp only[Act.put,aK,aL,aM]
  refine tq 1 rfl ?_ (fun wS hSw=>?_) ?_
  rotate_left
  ·(try dsimp only at hSw);go_simp;first|done|with_reducible rfl
  try simp only[Act.put,aK,aL,aM]
  refine rn 2 (by kernel_rfl) rfl (by rfl) (fun K hK=>?_)
  go_simp
  refine(qS.out _).mono ?_
  rintro e w2 ⟨rfl,hb⟩
  have C2:=h_ (C1.out.keep hb);have I2:=h_ (I1.out.below hb)
  clear hb
  refine hK.out _ _ ?_ (fun hHeld=>?_)
  ·with_reducible first|exact C5.out|exact C4.out|exact C3.out|exact C2.out|exact C1.out
  clear hK K
  try simp only[Act.put,aK,aL,aM]
  refine rn 3 (by kernel_rfl) rfl (by rfl) (fun K hK=>?_)
  go_simp
  refine(gF.out _ I2.out.bq).mono ?_
  rintro e w3 ⟨rfl,hb⟩
  have C3:=h_ (C2.out.keep hb);have I3:=h_ (I2.out.below hb)
  clear hb
  refine hK.out _ _ ?_ (fun hHeld=>?_)
  ·with_reducible first|exact C5.out|exact C4.out|exact C3.out|exact C2.out|exact C1.out
  clear hK K
  try simp only[Act.put,aK,aL,aM]
  refine rn 4 (by kernel_rfl) rfl (by rfl) (fun K hK=>?_)
  go_simp
  refine(rI.out _ I3.out.bq).mono ?_
  rintro e w4 ⟨rfl,hb⟩
  have C4:=h_ (C3.out.keep hb);have I4:=h_ (I3.out.below hb)
  clear hb
  refine hK.out _ _ ?_ (fun hHeld=>?_)
  ·with_reducible first|exact C5.out|exact C4.out|exact C3.out|exact C2.out|exact C1.out
  clear hK K
  try simp only[Act.put,aK,aL,aM]
  refine tq 5 rfl ?_ (fun wS hSw=>?_) ?_
  rotate_left
  ·(try dsimp only at hSw);go_simp;first|done|with_reducible rfl
  try simp only[Act.put,aK,aL,aM]
  refine tq 6 rfl ?_ (fun wS hSw=>?_) ?_
  rotate_left
  ·(try dsimp only at hSw);go_simp;first|done|with_reducible rfl
  try simp only[Act.put,aK,aL,aM]
  refine rn 7 (by kernel_rfl) rfl (by rfl) (fun K hK=>?_)
  refine g9 30 (.tmp 4) (.tmp 11) rfl w (w.heap.size+1) 30 (ah aD U0) I4.out 0 (bH aD U0) rfl rfl (ae _) dq (pP rfl) (ah aD U0) (lz rfl rfl) ?_
  intro w5 i5 t5
  have I5:=h_ i5;have C5:=h_ (t5.cb C4.out (cj (bB _)))
  clear i5 t5
  refine hK.out _ _ ?_ (fun hHeld=>?_)
  ·with_reducible first|exact C5.out|exact C4.out|exact C3.out|exact C2.out|exact C1.out
  clear hK K
  try simp only[Act.put]
  refine tq 8 rfl ?_ (fun wS hSw=>?_) ?_
  rotate_left
  ·(try dsimp only at hSw);go_simp;first|done|with_reducible rfl
  try simp only[Act.put,aK,aL,aM]
  refine wpAnyH_done (by kernel_rfl) ?_ _
  go_wp2_with fail
  exact oE (u:=U0) (q:=false) results12 rfl rfl rfl I5.out ⟨rfl,I5.out.bq⟩
 |some u =>
  have U8:=h_ (TI.out u hJ)
  have rI:=h_ (fun W hb=>(show Calls prog 32 #[.agg (ah bv bu),.agg (aT p)] W fun e w'=>∃ pv,e=.returned (.tuple #[.agg (ah pv u),.bool true])∧w'.ownsRow W.heap.size 9 1 pv u.path.length (Strs u.path)∧Below W.heap.size W w' from by have h:=uK.out W hb;rw[hJ]at h;exact h))
  clear hJ
  go_enter func12,ntmps12
  go_upto_region 1 with(first
   |(refine aE rfl 30 rfl _ _ (cD _) ?_)
   |fail)
  rw[HW2.out]
  have C1:=h_ (K1.out.keep (aJ (aG _)))
  have I1:=h_ (K2.out.below (aJ (aG _)))
  refine wp_region_held_drew (S:=fun W=>CB W w.heap.size 30 (ah bv bu)) (by kernel_rfl) (by with_reducible first|exact C5.out|exact C4.out|exact C3.out|exact C2.out|exact C1.out) (fun hHeld=>?_)
  refine tq 0 rfl ?_ (fun wS hSw=>?_) ?_
  rotate_left
  ·(try dsimp only at hSw)
   refine cq 30 (.tmp 2) ?_ w.heap.size (ah bv bu) _ underlying30 rfl u7.out ?_ ?_
   ·rfl
   ·rfl
   exact hSw
  try simp only[Act.put,aK,aL,aM]
  refine tq 1 rfl ?_ (fun wS hSw=>?_) ?_
  rotate_left
  ·(try dsimp only at hSw);go_simp;first|done|with_reducible rfl
  try simp only[Act.put,aK,aL,aM]
  refine rn 2 (by kernel_rfl) rfl (by rfl) (fun K hK=>?_)
  go_simp
  refine(qS.out _).mono ?_
  rintro e w2 ⟨rfl,hb⟩
  have C2:=h_ (C1.out.keep hb);have I2:=h_ (I1.out.below hb)
  clear hb
  refine hK.out _ _ ?_ (fun hHeld=>?_)
  ·with_reducible first|exact C5.out|exact C4.out|exact C3.out|exact C2.out|exact C1.out
  clear hK K
  try simp only[Act.put,aK,aL,aM]
  refine rn 3 (by kernel_rfl) rfl (by rfl) (fun K hK=>?_)
  go_simp
  refine(gF.out _ I2.out.bq).mono ?_
  rintro e w3 ⟨rfl,hb⟩
  have C3:=h_ (C2.out.keep hb);have I3:=h_ (I2.out.below hb)
  clear hb
  refine hK.out _ _ ?_ (fun hHeld=>?_)
  ·with_reducible first|exact C5.out|exact C4.out|exact C3.out|exact C2.out|exact C1.out
  clear hK K
  try simp only[Act.put,aK,aL,aM]
  refine rn 4 (by kernel_rfl) rfl (by rfl) (fun K hK=>?_)
  go_simp
  refine(rI.out _ I3.out.bq).mono ?_
  rintro e w4 ⟨pv,rfl,o4,hb⟩
  have C4:=h_ (C3.out.keep hb);have I4:=h_ (I3.out.below hb);have O4:=h_ (aU o4 (show w.heap.size+2<=_ from I3.out.lt));clear o4
  clear hb
  refine hK.out _ _ ?_ (fun hHeld=>?_)
  ·with_reducible first|exact C5.out|exact C4.out|exact C3.out|exact C2.out|exact C1.out
  clear hK K
  try simp only[Act.put,aK,aL,aM]
  refine tq 5 rfl ?_ (fun wS hSw=>?_) ?_
  rotate_left
  ·(try dsimp only at hSw);go_simp;first|done|with_reducible rfl
  try simp only[Act.put,aK,aL,aM]
  refine tq 6 rfl ?_ (fun wS hSw=>?_) ?_
  rotate_left
  ·(try dsimp only at hSw);go_simp;first|done|with_reducible rfl
  try simp only[Act.put,aK,aL,aM]
  refine rn 7 (by kernel_rfl) rfl (by rfl) (fun K hK=>?_)
  refine g9 30 (.tmp 4) (.tmp 11) rfl w (w.heap.size+1) 30 (ah aD U0) I4.out 0 (bH pv u) rfl rfl (by rw[gg U8.out];exact bA rfl) (by rw[gg U8.out];exact dq) (pP (aS O4.out)) (ah pv u) (lz rfl U8.out) ?_
  intro w5 i5 t5
  have I5:=h_ i5;have O5:=h_ (aU (t5.row O4.out (bB _)) (Nat.le_add_right _ 2));have C5:=h_ (t5.cb C4.out (cj (bB _)))
  clear i5 t5
  refine hK.out _ _ ?_ (fun hHeld=>?_)
  ·with_reducible first|exact C5.out|exact C4.out|exact C3.out|exact C2.out|exact C1.out
  clear hK K
  try simp only[Act.put]
  refine tq 8 rfl ?_ (fun wS hSw=>?_) ?_
  rotate_left
  ·(try dsimp only at hSw);go_simp;first|done|with_reducible rfl
  try simp only[Act.put,aK,aL,aM]
  refine wpAnyH_done (by kernel_rfl) ?_ _
  go_wp2_with fail
  exact oE (u:=u) (q:=true) results12 U8.out rfl rfl I5.out ⟨pv,rfl,O5.out,I5.out.bq⟩

theorem QV (a b c d e g i j a' b' c' d' e' g' i' j':Int) (D:Nat) (w:World):(Op.equalIn (D+2) 25 (.agg #[.int .u16 a,.int .u16 b,.int .u16 c,.int .u16 d,.int .u16 e,.int .u16 g,.int .u16 i,.int .u16 j]) (.agg #[.int .u16 a',.int .u16 b',.int .u16 c',.int .u16 d',.int .u16 e',.int .u16 g',.int .u16 i',.int .u16 j'])).run prog w=.ok (decide ([a,b,c,d,e,g,i,j]=[a',b',c',d',e',g',i',j'])) w:=by
 have hu:=underlying24
 obtain⟨i8,q9,hz⟩:∃ i,prog.info? 24=some i∧i.size=1:=⟨_,rfl,by kernel_rfl⟩
 have hc:prog.cellsOf 24=1:=by kernel_rfl
 rw[run_equalIn_array w (D+1) _ _ underlying25 q9,hc,show List.range 8=[0,1,2,3,4,5,6,7]from rfl]
 simp only[Op.eqItems]
 clear hc hz q9
 go_simp
 repeat' split
 all_goals simp_all
theorem Qa (h h':gE) (hl:h.six.length=8) (hl':h'.six.length=8) (w:World) (q:Bool) (hq:q=true ↔ h=h'):(binOp .eql 27 (.agg (bp h)) (.agg (bp h'))).run prog w=.ok (.bool q) w:=by
 obtain⟨k,n,f,six⟩:=h
 obtain⟨k',n',f',six'⟩:=h'
 simp only at hl hl'
 obtain⟨a,b,c,d,e,g,i,j,rfl⟩:=eight hl
 obtain⟨a',b',c',d',e',g',i',j',rfl⟩:=eight hl'
 have hS:prog.underlying 27=some (.struct (prog.fieldsOf 27)):=by kernel_rfl
 have hp:prog.stoodInHeld 27=false:=by kernel_rfl
 have hc:bp ⟨k,n,f,[a,b,c,d,e,g,i,j]⟩=#[.int .i64 k,.string (bs n),.int .u32 f,.int .u16 a,.int .u16 b,.int .u16 c,.int .u16 d,.int .u16 e,.int .u16 g,.int .u16 i,.int .u16 j]:=rfl
 have hc':bp ⟨k',n',f',[a',b',c',d',e',g',i',j']⟩=#[.int .i64 k',.string (bs n'),.int .u32 f',.int .u16 a',.int .u16 b',.int .u16 c',.int .u16 d',.int .u16 e',.int .u16 g',.int .u16 i',.int .u16 j']:=rfl
 have h6:=fun W=>QV a b c d e g i j a' b' c' d' e' g' i' j' 9997 W
 have hn:=qG n n'
 obtain⟨N,hN⟩:=ap (bs n)
 obtain⟨M,hM⟩:=ap (bs n')
 rw[<-hN,<-hM]at hn
 rw[hc,hc',run_eql_struct,show(10000:Nat)=9999+1 from rfl,run_equalIn_agg w 9999 27 _ _ hS hp]
 rw[<-hN,<-hM]
 simp only[Program.fieldsOf,underlying27]
 obtain⟨X,hX⟩:=ap (decide ([a,b,c,d,e,g,i,j]=[a',b',c',d',e',g',i',j']))
 rw[<-hX]at h6
 clear hc hc' hN hM
 have hq2:q=(decide (k=k')&&decide (n=n')&&decide (f=f')&&X):=by
  rw[cg,hq,hX]
  simp[and_assoc]
 clear hX hq
 subst hq2
 go_simp
 repeat' split
 all_goals simp_all
section
variable {ops:Array Oper} {rest:List Oper} {o:Oper} {a:Act} {w:World} {Q:Exit->Act->World->Prop}
theorem YH (hg:Region.wanted o (yielded ops a.tmps)=true) (x y:Operand) (ho:o.op=.binOp .eql 27 x y 27) (h h':gE) (hl:h.six.length=8) (hl':h'.six.length=8) (q:Bool) (hq:q=true ↔ h=h') (hx:a.eval x=.agg (bp h)) (hy:a.eval y=.agg (bp h'))
  (k:wpList prog ops Q rest (a.put o.dst (.bool q)) w):wpList prog ops Q (o::rest) a w:=by
 refine wT hg (.bool q) ?_ k
 have e:=Qa h h' hl hl' w q hq
 have g:=run_eqGuard_agg (P:=prog) w .eql 27 x y (bp h) (bp h') (by kernel_rfl)
 unfold execOp
 simp only[ho,hx,hy,Sem.run_bind,Sem.run_pure,Result.andThen_ok,e,g]
theorem xV (hg:Region.wanted o (yielded ops a.tmps)=true) (x:Operand) (ho:o.op=.load 27 x) (b k:Nat) (h:gE) (hl:h.six.length=8) (hx:a.eval x=.pointer (some ⟨b,k,none⟩)) (hr:w.rangeAt b k (aW h))
  (K:wpList prog ops Q rest (a.put o.dst (.agg (bp h))) w):wpList prog ops Q (o::rest) a w :=
 wT hg (.agg (bp h)) (dM 27 x ho b k (aW h) _ underlying27 rfl (by rw[gR];simp[aW,hl]) hx hr) K
end
theorem Tr (w:World) (pu pv:Value) (u v:Url):∃ W,(w.alloc (.cells (ah pu u) 30)).alloc (.cells (ah pv v) 30)=W∧Below w.heap.size w W∧CB W w.heap.size 30 (ah pu u)∧CB W (w.heap.size+1) 30 (ah pv v):=by
 have hx:=CB.new w 30 (ah pu u)
 have hb:=(Below.refl w.heap.size w).alloc (ae _) (.cells (ah pu u) 30)
 obtain⟨w1,hw1⟩:=ap (w.alloc (.cells (ah pu u) 30))
 have hz1:w1.heap.size=w.heap.size+1:=by rw[hw1];simp
 rw[<-hw1]at hx hb ⊢
 have hy:=CB.new w1 30 (ah pv v)
 have hb2:=(Below.refl w1.heap.size w1).alloc (ae _) (.cells (ah pv v) 30)
 rw[hz1]at hy
 exact⟨_,rfl,fJ hb hb2,hx.keep hb2,hy⟩
theorem Aq {a:Act} {w W2:World} {u v:Url} {q:Bool} (h4:a.tmps.getD 4 undef=.bool q) (hd:a.defers=[]) (hb:Below w.heap.size w W2) (hq:q=true ↔ u=v) :
  bodyPost prog f14 (fun e w'=>∃ q,e=.returned (.bool q)∧(q=true ↔ u=v)∧Below w.heap.size w w') Exit.ret a W2 :=
 bodyPost_ret (v:=.bool q) (by rw[<-h4];exact results_tmp (fn:=f14) (t:=4) (by rfl) _ _ _) hd ⟨q,rfl,hq,hb⟩
theorem Nx (u v:Url) (pu pv:Value) (w:World) {B C:Nat} (hu8:u.host.six.length=8) (hv8:v.host.six.length=8) (h:Sl B w pu (u.path.map S)) (k:Sl C w pv (v.path.map S)) (hB:B<=w.heap.size) (hC:C<=w.heap.size) (hl:u.path.length<=1024000000) (hm:v.path.length<=1024000000) :
  Calls prog 14 #[.agg (ah pu u),.agg (ah pv v)] w fun e w'=>∃ q,e=.returned (.bool q)∧(q=true ↔ u=v)∧Below w.heap.size w w':=by
 obtain⟨W,hW,hb,k1,k2⟩:=Tr w pu pv u v
 have HW:=h_ hW
 have HB:=h_ hb
 have hh:=h.below (hb.mono hB)
 have kk:=k.below (hb.mono hC)
 have HEQ:=h_ (Gv u.path v.path pu pv W hh kk hl hm)
 have U8:=h_ hu8
 have V8:=h_ hv8
 have yF:=qP pu u hu8
 have at2:=qP pv v hv8
 have R1:=h_ (show W.rangeAt w.heap.size 3 (aW u.host)from fun j x hj=>k1.ak (yF.host j x hj))
 have R2:=h_ (show W.rangeAt (w.heap.size+1) 3 (aW v.host)from fun j x hj=>k2.ak (at2.host j x hj))
 have SO:=qG u.aC v.aC
 obtain⟨FD,od⟩:=ap (bs u.aC)
 obtain⟨a0L,CI⟩:=ap (bs v.aC)
 rw[<-od,<-CI]at SO
 obtain⟨Ss,Ld⟩:=ap (decide (u.aC=v.aC))
 rw[<-Ld]at SO
 have a54:W.cell? ⟨w.heap.size,0,none⟩=some (.string FD):=by rw[od];exact k1.ak yF.aC
 have a58:W.cell? ⟨w.heap.size+1,0,none⟩=some (.string a0L):=by rw[CI];exact k2.ak at2.aC
 clear od CI
 have Ro:=h_ (show Ss=true ↔ u.aC=v.aC by rw[Ld,decide_eq_true_eq]);clear Ld
 have SQ:=qG u.usr v.usr
 obtain⟨FE,oe⟩:=ap (bs u.usr)
 obtain⟨a0M,CJ⟩:=ap (bs v.usr)
 rw[<-oe,<-CJ]at SQ
 obtain⟨St,Le⟩:=ap (decide (u.usr=v.usr))
 rw[<-Le]at SQ
 have a55:W.cell? ⟨w.heap.size,1,none⟩=some (.string FE):=by rw[oe];exact k1.ak yF.usr
 have a59:W.cell? ⟨w.heap.size+1,1,none⟩=some (.string a0M):=by rw[CJ];exact k2.ak at2.usr
 clear oe CJ
 have Rp:=h_ (show St=true ↔ u.usr=v.usr by rw[Le,decide_eq_true_eq]);clear Le
 have SN:=qG u.ed v.ed
 obtain⟨FC,n9⟩:=ap (bs u.ed)
 obtain⟨a0K,CH⟩:=ap (bs v.ed)
 rw[<-n9,<-CH]at SN
 obtain⟨Sr,Lc⟩:=ap (decide (u.ed=v.ed))
 rw[<-Lc]at SN
 have a53:W.cell? ⟨w.heap.size,2,none⟩=some (.string FC):=by rw[n9];exact k1.ak yF.ed
 have a57:W.cell? ⟨w.heap.size+1,2,none⟩=some (.string a0K):=by rw[CH];exact k2.ak at2.ed
 clear n9 CH
 have Rn:=h_ (show Sr=true ↔ u.ed=v.ed by rw[Lc,decide_eq_true_eq]);clear Lc
 obtain⟨Bt,KS⟩:∃ b:Bool,(b=true ↔ u.host=v.host):=by
  by_cases h:u.host=v.host
  ·exact⟨true,fun _=>h,fun _=>rfl⟩
  exact⟨false,fun h=>(by cases h),fun h2=>absurd h2 h⟩
 have Jd:=h_ KS;clear KS
 obtain⟨kI,fS⟩:=ap (u.aZ)
 obtain⟨wY,og⟩:=ap (v.aZ)
 obtain⟨p9,qp⟩:=ap (decide (u.aZ=v.aZ))
 have W7:(kI==wY)=p9:=by rw[fS,og,qp];first|exact gD _ _|rfl
 have W5:W.cell? ⟨w.heap.size,14,none⟩=some (.bool kI):=by rw[fS];exact k1.ak yF.aZ
 have W6:W.cell? ⟨w.heap.size+1,14,none⟩=some (.bool wY):=by rw[og];exact k2.ak at2.aZ
 clear fS og
 have uY:=h_ (show p9=true ↔ u.aZ=v.aZ by rw[qp,decide_eq_true_eq]);clear qp
 obtain⟨uB,k8⟩:=ap (u.port)
 obtain⟨N6,xQ⟩:=ap (v.port)
 obtain⟨Bv,Cl⟩:=ap (decide (u.port=v.port))
 have a3x:(uB==N6)=Bv:=by rw[k8,xQ,Cl];first|exact gD _ _|rfl
 have a3n:W.cell? ⟨w.heap.size,15,none⟩=some (.int .i64 uB):=by rw[k8];exact k1.ak yF.port
 have a3s:W.cell? ⟨w.heap.size+1,15,none⟩=some (.int .i64 N6):=by rw[xQ];exact k2.ak at2.port
 clear k8 xQ
 have Jf:=h_ (show Bv=true ↔ u.port=v.port by rw[Cl,decide_eq_true_eq]);clear Cl
 obtain⟨AQ,n8⟩:=ap (u.opq)
 obtain⟨Tx,CG⟩:=ap (v.opq)
 obtain⟨Ke,Lb⟩:=ap (decide (u.opq=v.opq))
 have a6b:(AQ==Tx)=Ke:=by rw[n8,CG,Lb];first|exact gD _ _|rfl
 have a52:W.cell? ⟨w.heap.size,16,none⟩=some (.bool AQ):=by rw[n8];exact k1.ak yF.opq
 have a56:W.cell? ⟨w.heap.size+1,16,none⟩=some (.bool Tx):=by rw[CG];exact k2.ak at2.opq
 clear n8 CG
 have Rm:=h_ (show Ke=true ↔ u.opq=v.opq by rw[Lb,decide_eq_true_eq]);clear Lb
 have KR:=qG u.flat v.flat
 obtain⟨yx,k5⟩:=ap (bs u.flat)
 obtain⟨WG,xN⟩:=ap (bs v.flat)
 rw[<-k5,<-xN]at KR
 obtain⟨Kd,Ch⟩:=ap (decide (u.flat=v.flat))
 rw[<-Ch]at KR
 have a3j:W.cell? ⟨w.heap.size,17,none⟩=some (.string yx):=by rw[k5];exact k1.ak yF.flat
 have a3o:W.cell? ⟨w.heap.size+1,17,none⟩=some (.string WG):=by rw[xN];exact k2.ak at2.flat
 clear k5 xN
 have Ja:=h_ (show Kd=true ↔ u.flat=v.flat by rw[Ch,decide_eq_true_eq]);clear Ch
 obtain⟨Bu,Ck⟩:=ap (decide (u.path=v.path))
 have a3m:W.cell? ⟨w.heap.size,18,none⟩=some (pu):=by exact k1.ak yF.path
 have a3r:W.cell? ⟨w.heap.size+1,18,none⟩=some (pv):=by exact k2.ak at2.path
 have Je:=h_ (show Bu=true ↔ u.path=v.path by rw[Ck,decide_eq_true_eq]);have HEP:=h_ (show Calls prog 43 #[pu,pv] W fun e w'=>e=.returned (.bool Bu)∧Below W.heap.size W w' from by have hh:=HEQ.out;rw[<-Ck]at hh;exact hh);clear Ck
 obtain⟨uz,k7⟩:=ap (u.bP)
 obtain⟨N5,xP⟩:=ap (v.bP)
 obtain⟨Br,Cj⟩:=ap (decide (u.bP=v.bP))
 have a3w:(uz==N5)=Br:=by rw[k7,xP,Cj];first|exact gD _ _|rfl
 have Uh:=h_ (fun w2 (hb2:Below W.heap.size W w2)=>(show w2.cell? ⟨w.heap.size,19,none⟩=some (.bool uz)∧w2.cell? ⟨w.heap.size+1,19,none⟩=some (.bool N5)from⟨by rw[k7];exact(k1.keep hb2).ak yF.bP,by rw[xP];exact(k2.keep hb2).ak at2.bP⟩))
 clear k7 xP
 have Jc:=h_ (show Br=true ↔ u.bP=v.bP by rw[Cj,decide_eq_true_eq]);clear Cj
 have e_q:=qG u.q v.q
 obtain⟨x_q,CD⟩:=ap (bs u.q)
 obtain⟨y_q,VN⟩:=ap (bs v.q)
 rw[<-CD,<-VN]at e_q
 obtain⟨b_q,f_q⟩:=ap (decide (u.q=v.q))
 rw[<-f_q]at e_q
 have L_q:=h_ (fun w2 (hb2:Below W.heap.size W w2)=>(show w2.cell? ⟨w.heap.size,20,none⟩=some (.string x_q)∧w2.cell? ⟨w.heap.size+1,20,none⟩=some (.string y_q)from⟨by rw[CD];exact(k1.keep hb2).ak yF.q,by rw[VN];exact(k2.keep hb2).ak at2.q⟩))
 clear CD VN
 have E_q:=h_ (show b_q=true ↔ u.q=v.q by rw[f_q,decide_eq_true_eq]);clear f_q
 obtain⟨uy,k6⟩:=ap (u.bS)
 obtain⟨N0,xO⟩:=ap (v.bS)
 obtain⟨Bq,Ci⟩:=ap (decide (u.bS=v.bS))
 have a3v:(uy==N0)=Bq:=by rw[k6,xO,Ci];first|exact gD _ _|rfl
 have Ug:=h_ (fun w2 (hb2:Below W.heap.size W w2)=>(show w2.cell? ⟨w.heap.size,21,none⟩=some (.bool uy)∧w2.cell? ⟨w.heap.size+1,21,none⟩=some (.bool N0)from⟨by rw[k6];exact(k1.keep hb2).ak yF.bS,by rw[xO];exact(k2.keep hb2).ak at2.bS⟩))
 clear k6 xO
 have Jb:=h_ (show Bq=true ↔ u.bS=v.bS by rw[Ci,decide_eq_true_eq]);clear Ci
 have e_f:=qG u.f v.f
 obtain⟨x_f,CA⟩:=ap (bs u.f)
 obtain⟨y_f,VM⟩:=ap (bs v.f)
 rw[<-CA,<-VM]at e_f
 obtain⟨b_f,f_f⟩:=ap (decide (u.f=v.f))
 rw[<-f_f]at e_f
 have L_f:=h_ (fun w2 (hb2:Below W.heap.size W w2)=>(show w2.cell? ⟨w.heap.size,22,none⟩=some (.string x_f)∧w2.cell? ⟨w.heap.size+1,22,none⟩=some (.string y_f)from⟨by rw[CA];exact(k1.keep hb2).ak yF.f,by rw[VM];exact(k2.keep hb2).ak at2.f⟩))
 clear CA VM
 have E_f:=h_ (show b_f=true ↔ u.f=v.f by rw[f_f,decide_eq_true_eq]);clear f_f
 clear yF at2 k1 k2 hh kk hb hW h k hB hC hl hm hu8 hv8
 have FH:=h_ (show u=v ↔ (Ss&&St&&Sr&&Bt&&p9&&Bv&&Ke&&Kd&&Bu&&Br&&b_q&&Bq&&b_f)=true from by
  simp only[dC,Ro.out,Rp.out,Rn.out,Jd.out,uY.out,Jf.out,Rm.out,Ja.out,Je.out,Jc.out,E_q.out,Jb.out,E_f.out]
  constructor
  ·intro h;rw[h];simp
  rintro⟨⟨⟨⟨⟨⟨⟨⟨⟨⟨⟨⟨h1,h2⟩,h3⟩,h4⟩,h5⟩,h6⟩,h7⟩,h8⟩,h9⟩,h10⟩,h11⟩,h12⟩,h13⟩
  exact WC h1 h2 h3 h4 h5 h6 h7 h8 h9 h10 h11 h12 h13)
 clear HEQ Ro Rp Rn uY Jf Rm Ja Je Jc E_q Jb E_f
 go_enter func14,ntmps14
 go_upto_region 1 with fail
 rw[HW.out]
 refine wp_region_lit ?_
 simp only[WX,bI,bW]
 go_wp2_with (first
  |(refine xV rfl (.tmp 25) rfl w.heap.size 3 u.host U8.out rfl R1.out ?_)
  |(refine xV rfl (.tmp 27) rfl (w.heap.size+1) 3 v.host V8.out rfl R2.out ?_)
  |(refine YH rfl (.tmp 26) (.tmp 28) rfl u.host v.host U8.out V8.out Bt Jd.out rfl rfl ?_)
  |(go_at_call 43;refine HEP.out.mono ?_;rintro e w2 ⟨rfl,hb2⟩;have B2:=h_ (fJ HB.out hb2);obtain⟨a3l,a3q⟩:=Uh.out _ hb2;obtain⟨c_q,d_q⟩:=L_q.out _ hb2;obtain⟨a3k,a3p⟩:=Ug.out _ hb2;obtain⟨c_f,d_f⟩:=L_f.out _ hb2;clear hb2)
  |fail)
 all_goals first
  |(refine Aq (q:=b_f) (by rfl) (by rfl) (by first|exact B2.out|exact HB.out) ?_;rw[FH.out];clear FH;simp_all)
  |(refine Aq (q:=false) (by rfl) (by rfl) (by first|exact B2.out|exact HB.out) ?_;rw[FH.out];clear FH;simp_all)

theorem z6:∀ l:List Bytes,l.length<=(cy l).length
 | []=>by simp[cy]
 |p::r=>by
  have:=z6 r
  unfold cy
  simp only[af,ag,aQ]
  omega
theorem mw {aC:Bytes} {l:List Bytes}:(cy (bU aC l)).length<=(cy l).length:=by
 match l with
 | []=>simp[bU,cy]
 | [x] =>
  show(cy (if aC=[102,105,108,101]∧iF x=true then [x]else [])).length<=_
  split
  ·exact ae _
  simp[cy]
 |x::y::r =>
  show(cy ((x::y::r).dropLast)).length<=_
  have e:=RW (l:=x::y::r) (by simp)
  have h:=congrArg (fun l=>(cy l).length) e
  try dsimp only at h
  rw[js]at h
  simp only[af]at h
  omega
theorem As {aC:Bytes} {out:List Bytes} {p:Bytes} {last:Bool}:(cy (jL aC out p last)).length<=(cy out).length+(3*p.length+1):=by
 have hs:=mw (aC:=aC) (l:=out)
 have hp:=fB 4 p
 unfold jL
 split
 ·split
  ·rw[js];simp only[af,ag,aQ];omega
  omega
 split
 ·split
  ·rw[js];simp only[af,ag,aQ];omega
  omega
 split
 ·next h =>
  have h2:p.length=2:=by
   have h3:=h.2.2
   match p with
   | []=>cases h3
   | [a]=>cases h3
   | [a,b]=>rfl
   |a::b::c::r=>cases h3
  rw[js]
  simp only[af,ag,aQ,aA]
  omega
 rw[js];simp only[af,ag,aQ];omega
def rH:List Bytes->Nat
 | []=>0
 |p::r=>(p.length+1)+rH r
theorem wD {aC:Bytes}:∀ (ps out:List Bytes),(cy (ju aC out ps)).length<=(cy out).length+3*rH ps
 | [],out=>by simp[ju]
 | [p],out=>by
  have:=As (aC:=aC) (out:=out) (p:=p) (last:=true)
  show(cy (jL aC out p true)).length<=_
  unfold rH rH
  omega
 |p::q::r,out=>by
  have h1:=As (aC:=aC) (out:=out) (p:=p) (last:=false)
  have h2:=wD (aC:=aC) (q::r) (jL aC out p false)
  show(cy (ju aC (jL aC out p false) (q::r))).length<=_
  have e:rH (p::q::r)=(p.length+1)+rH (q::r):=rfl
  omega
theorem Aw (sp:Bool):∀ s:Bytes,rH (fI sp s)=s.length+1
 | []=>rfl
 |c::t=>by
  have ih:=Aw sp t
  unfold fI
  split
  ·show(0+1)+rH (fI sp t)=_
   rw[ih,ag];omega
  obtain⟨p,ps,e⟩:=rZ sp t
  rw[e]at ih ⊢
  have e1:rH (p::ps)=(p.length+1)+rH ps:=rfl
  have e2:rH ((c::p)::ps)=((c::p).length+1)+rH ps:=rfl
  rw[e2,ag,ag]
  omega
theorem gA (aC:Bytes) (path:List Bytes) (s:Bytes):(cy (cL aC path s)).length<=(cy path).length+3*s.length+3:=by
 have h:=wD (aC:=aC) (fI (ep aC) s) path
 rw[Aw]at h
 unfold cL
 omega
theorem tJ (aC s:Bytes):(cy (fU aC s)).length<=3*s.length+3:=by
 unfold fU
 have h1:=gA aC [] s
 have h2:=gA aC [] (s.drop 1)
 have e:(cy ([]:List Bytes)).length=0:=rfl
 rw[e]at h1 h2
 split
 ·rw[ai]at h2;omega
 omega
theorem Mv (c:Prop) [Decidable c] (l:List Bytes):(cy (if c then l.take 1 else [])).length<=(cy l).length:=by
 split
 ·cases l with
  |nil=>simp[cy]
  |cons x r =>
   show(cy [x]).length<=_
   simp[cy]
 simp[cy]
structure Ul (L M:Nat) (u:Url):Prop where
 aC:u.aC.length<=L
 usr:u.usr.length<=3*L
 ed:u.ed.length<=3*L
 host:(∃n sp,n.length<=L∧el n sp=some u.host)∨u.host.name=[]
 flat:u.flat.length<=3*L+3
 path:(cy u.path).length<=M
 q:u.q.length<=3*L
 f:u.f.length<=3*L
structure Pl (L:Nat) (p:jP):Prop where
 aC:p.aC.length<=L
 rest:p.rest.length<=L
 q:p.q.length<=L
 f:p.f.length<=L
theorem M9 (s:Bytes):Pl s.length (eJ s):=by
 have a:=gm 35 s
 have b:=gm 63 (bR 35 s).1
 have c:=gm 58 (bR 63 (bR 35 s).1).1
 unfold eJ
 dsimp only
 split
 ·exact⟨by rw[aj];omega,by dsimp only;omega,by dsimp only;omega,by dsimp only;omega⟩
 exact⟨aO _,by dsimp only;omega,by dsimp only;omega,by dsimp only;omega⟩
theorem BN (s:Bytes):(ef s).length<=s.length:=by
 have h1:(ef s).length<=(trimF s).length:=eQ _ _
 have h2:(trimF s).length<=s.length:=qO s
 omega
theorem Fl {s:Bytes} {L:Nat} (h:s.length<=L):Pl L (eJ (ef s)):=by
 have h1:=M9 (ef s)
 have h2:=BN s
 exact⟨by have:=h1.aC;omega,by have:=h1.rest;omega,by have:=h1.q;omega,by have:=h1.f;omega⟩
section
variable {L M:Nat} {b u:Url} {p:jP}
theorem pQ (hp:Pl L p) {aC:Bytes} (hs:aC.length<=L):Ul L M (cQ aC p):=by
 refine⟨hs,aO _,aO _,.inr rfl,aO _,aO _,?_,?_⟩
 ·have h1:=fB (if ep aC=true then 3 else 2) p.q
  have h2:=hp.q
  show(df (if ep aC=true then 3 else 2) p.q).length<=_
  omega
 have h1:=fB 1 p.f
 have h2:=hp.f
 show(df 1 p.f).length<=_
 omega
theorem yt {u0:Url} {s:Bytes} (h0:Ul L M u0) (hs:s.length<=L) (hM:3*L+3<=M) (h:iI u0 s=some u):Ul L M u:=by
 unfold iI at h
 dsimp only at h
 have hc:=l5 (ep u0.aC) s
 cases ha:jk u0.aC (dA (ep u0.aC) s).1 with
 |none=>rw[ha]at h;cases h
 |some a =>
  rw[ha]at h
  injection h with h
  obtain⟨h1,h2,n,hn,hh⟩:=Kc ha
  rw[<-h]
  refine⟨h0.aC,by dsimp only;omega,by dsimp only;omega,.inl ⟨n,_,by omega,hh⟩,h0.flat,?_,h0.q,h0.f⟩
  dsimp only
  split
  ·have:=tJ u0.aC (dA (ep u0.aC) s).2
   omega
  exact h0.path
theorem NQ {u0:Url} {s:Bytes} (h0:Ul L M u0) (hs:s.length<=L) (hM:3*L+3<=M) (h:gu u0 s=some u):Ul L M u:=by
 unfold gu at h
 dsimp only at h
 have hc:=l5 true s
 have hp2:=tJ u0.aC (dA true s).2
 have hs2:=gA u0.aC [] s
 have e:(cy ([]:List Bytes)).length=0:=rfl
 rw[e]at hs2
 split at h
 ·injection h with h
  rw[<-h]
  exact⟨h0.aC,h0.usr,h0.ed,h0.host,h0.flat,by dsimp only;omega,h0.q,h0.f⟩
 split at h
 ·injection h with h
  rw[<-h]
  exact⟨h0.aC,h0.usr,h0.ed,h0.host,h0.flat,by dsimp only;omega,h0.q,h0.f⟩
 cases hO:el (dA true s).1 true with
 |none=>rw[hO]at h;cases h
 |some g =>
  rw[hO]at h
  injection h with h
  rw[<-h]
  refine⟨h0.aC,h0.usr,h0.ed,?_,h0.flat,by dsimp only;omega,h0.q,h0.f⟩
  dsimp only
  split
  ·exact h0.host
  exact .inl ⟨_,_,by omega,hO⟩
theorem AK (h0:Ul L M u) (hb:Ul L M b):Ul L M (eV u b):=by
 unfold eV
 split
 ·exact⟨h0.aC,h0.usr,h0.ed,h0.host,h0.flat,hb.path,h0.q,h0.f⟩
 exact⟨h0.aC,h0.usr,h0.ed,h0.host,h0.flat,hb.path,hb.q,h0.f⟩
theorem Ul.more {M':Nat} (h:Ul L M u) (hM:M<=M'):Ul L M' u:=⟨h.aC,h.usr,h.ed,h.host,h.flat,aq h.path hM,h.q,h.f⟩
theorem ni (h0:Ul L M u) (l:List Bytes) {M':Nat} (hl:(cy l).length<=M'):Ul L M' {u with path:=l}:=⟨h0.aC,h0.usr,h0.ed,h0.host,h0.flat,hl,h0.q,h0.f⟩
theorem Re (hp:Pl L p) (hL:4<=L) (hb:Ul L M b) (h:kx b p=some u):Ul L (M+3*L+3) u:=by
 have h0:Ul L (M+3*L+3) (cQ aR p):=pQ hp hL
 have hr:=hp.rest
 have hbp:=hb.path
 rw[sW]at h
 have h2:Ul L (M+3*L+3) (IQ b p):=by
  unfold IQ
  split
  ·exact⟨h0.aC,h0.usr,h0.ed,hb.host,h0.flat,h0.path,h0.q,h0.f⟩
  exact⟨h0.aC,h0.usr,h0.ed,.inr rfl,h0.flat,h0.path,h0.q,h0.f⟩
 split at h
 ·exact NQ (u0:={cQ aR p with host:={H0 with kind:=1}}) ⟨h0.aC,h0.usr,h0.ed,.inr rfl,h0.flat,h0.path,h0.q,h0.f⟩ (by rw[ai];omega) (by omega) h
 split at h
 ·injection h with h
  rw[<-h]
  refine ni h2 _ ?_
  have h3:=gA aR (if b.aC=aR then vA b (p.rest.drop 1)else []) (p.rest.drop 1)
  have h4:(cy (if b.aC=aR then vA b (p.rest.drop 1)else [])).length<=M:=by
   split
   ·exact aq (Mv _ _) hbp
   simp[cy]
  rw[ai]at h3
  omega
 split at h
 ·injection h with h
  rw[<-h]
  exact AK h2 (hb.more (by omega))
 split at h
 ·injection h with h
  rw[<-h]
  refine ni h2 _ ?_
  have h3:=gA aR (bU aR b.path) p.rest
  have h4:=mw (aC:=aR) (l:=b.path)
  omega
 injection h with h
 rw[<-h]
 refine ni h2 _ ?_
 have h3:=gA aR [] p.rest
 have e:(cy ([]:List Bytes)).length=0:=rfl
 omega
theorem NR (hp:Pl L p) (h:fj p=some u):Ul L (3*L+3) u:=by
 have h0:Ul L (3*L+3) (cQ p.aC p):=pQ hp hp.aC
 have hr:=hp.rest
 unfold fj at h
 dsimp only at h
 split at h
 ·next r he =>
  rw[he]at hr
  simp only[ag]at hr
  exact yt h0 (by omega) (ae _) h
 ·next r _ he =>
  rw[he]at hr
  simp only[ag]at hr
  injection h with h
  rw[<-h]
  refine ni h0 _ ?_
  have h3:=gA p.aC [] r
  have e:(cy ([]:List Bytes)).length=0:=rfl
  show(cy (cL p.aC [] r)).length<=_
  omega
 injection h with h
 rw[<-h]
 refine⟨h0.aC,h0.usr,h0.ed,h0.host,?_,h0.path,h0.q,h0.f⟩
 have h3:=fB 0 p.rest
 dsimp only
 split
 ·simp only[af,gX,ag,aQ];omega
 omega
theorem Rf (hp:Pl L p) (hb:Ul L M b) (h:jV b p=some u):Ul L M u:=by
 unfold jV at h
 split at h
 ·cases h
 injection h with h
 rw[<-h]
 refine⟨hb.aC,hb.usr,hb.ed,hb.host,hb.flat,hb.path,hb.q,?_⟩
 have h1:=fB 1 p.f
 have h2:=hp.f
 show(df 1 p.f).length<=_
 omega
theorem Wy (hp:Pl L p) (hb:Ul L M b) (h:pF b p=some u):Ul L (M+3*L+3) u:=by
 have h0:Ul L (M+3*L+3) (cQ b.aC p):=pQ hp hb.aC
 have hr:=hp.rest
 have hbp:=hb.path
 have hA:Ul L (M+3*L+3) (takeA (cQ b.aC p) b):=⟨h0.aC,hb.usr,hb.ed,hb.host,h0.flat,h0.path,h0.q,h0.f⟩
 unfold pF at h
 dsimp only at h
 split at h
 ·exact yt h0 (by rw[ai];omega) (by omega) h
 split at h
 ·exact yt h0 (by rw[ai];omega) (by omega) h
 split at h
 ·injection h with h
  rw[<-h]
  refine ni hA _ ?_
  have h3:=gA b.aC [] (p.rest.drop 1)
  have e:(cy ([]:List Bytes)).length=0:=rfl
  rw[ai]at h3
  omega
 split at h
 ·injection h with h
  rw[<-h]
  exact AK hA (hb.more (by omega))
 injection h with h
 rw[<-h]
 refine ni hA _ ?_
 have h3:=gA b.aC (bU b.aC b.path) p.rest
 have h4:=mw (aC:=b.aC) (l:=b.path)
 omega
theorem Fx (hp:Pl L p) (hL:4<=L) (hb:Ul L M b) (h:d9 b p=some u):Ul L (M+3*L+3) u:=by
 unfold d9 at h
 split at h
 ·exact Re hp hL hb h
 split at h
 ·have:=hp.rest
  exact yt (pQ hp hp.aC) (by rw[ai];omega) (by omega) h
 split at h
 ·exact(NR hp h).more (by omega)
 split at h
 ·exact(Rf hp hb h).more (by omega)
 exact Wy hp hb h
end
theorem a0I (L:Nat):Ul L 0 U0:=⟨aO _,aO _,aO _,.inr rfl,aO _,aO _,aO _,aO _⟩
theorem AJ {s:Bytes} {u:Url} {L:Nat} (hs:s.length<=L) (hL:4<=L) (h:gv s=some u):Ul L (3*L+3) u:=by
 unfold gv at h
 split at h
 ·have:=Fx (M:=0) (Fl hs) hL (a0I L) h
  rw[bk]at this
  exact this
 cases h
theorem NS {b u:Url} {s:Bytes} {L M:Nat} (hs:s.length<=L) (hL:4<=L) (hb:Ul L M b) (h:mC b s=some u):Ul L (M+3*L+3) u:=Fx (Fl hs) hL hb h
theorem BV {l n:Bytes} (hl:l.length<=1000) (hd:kY (lQ l)=some n):n.length<=102400000:=by
 have h1:=pC _ l (ae _)
 have h2:=pO (signs (lQ l))
 have h3:=kD _ (lQ l) (ae _)
 have h4:=zt hd
 omega
theorem CZ {s:Bytes} {sp:Bool} {h:gE} (hh:el s sp=some h) (hs:s.length<=1000):h.name.length<=102400000:=by
 have key:qT s sp h->h.name.length<=102400000:=by
  intro e
  cases e with
  |six a h8 ha _=>exact aO _
  |name n e _ hd hn hb he=>exact BV hs hd
  |four n e _ h=>exact aO _
  |empty e h=>exact aO _
  |V4 e _ h hb =>
   have:=QG s
   show(df 0 s).length<=_
   omega
 exact key (hkind hh)
theorem Tt {L M:Nat} {u:Url} (h:Ul L M u) (hL:L<=1000) (hM:M<=1024000000):Ee u:=by
 refine⟨by have:=h.aC;omega,by have:=h.usr;omega,by have:=h.ed;omega,?_,by have:=h.flat;omega,by have:=h.path;omega,by have:=h.q;omega,by have:=h.f;omega⟩
 rcases h.host with⟨n,sp,hn,hh⟩|h
 ·exact CZ hh (by omega)
 rw[h];exact aO _
theorem EJ {u:Url} (g:Good u):sf u:=by
 cases g.body with
 |opq h1 h2 h3 h4 h5=>exact⟨by rw[h3];exact Rq,by rw[h5.n];omega⟩
 |none h1 h2 h3 h5=>exact⟨by rw[h3];exact Rq,by rw[h5.n];omega⟩
 |file h1 hs h3 h5 hp =>
  refine⟨?_,by rw[h5.n];omega⟩
  rcases h3 with h3|⟨n,_,h3,_⟩
  ·rw[h3];exact⟨by simp,by simp[H0],rfl,vi⟩
  exact mr (hkind h3)
 |asked h1 hs ha hp =>
  obtain⟨n,hh,_⟩:=ha.h
  refine⟨mr (hkind hh),?_⟩
  rcases ha.q with⟨_,h⟩|⟨_,h2,h3,_⟩
  ·have h:u.port=0:=h
   rw[h];omega
  have h2:0<=u.port:=h2
  have h3:u.port<=65535:=h3
  omega
theorem Ts {L M:Nat} {u:Url} (h:Ul L M u) (hM:M<=307200000):u.path.length<=307200000∧∀ x∈u.path,List.length x<=1024000000:=by
 have h1:=h.path
 have h2:=z6 u.path
 refine⟨by omega,fun x hx=>?_⟩
 have key:∀ l:List Bytes,x∈l->x.length<=(cy l).length:=by
  intro l
  induction l with
  |nil=>intro h;cases h
  |cons p r ih =>
   intro h
   unfold cy
   simp only[af]
   rcases aN.mp h with rfl|h
   ·omega
   have:=ih h;omega
 have:=key _ hx
 omega

theorem cI {w:World} {base e:Nat} {v:Value} {l:List Bytes} (h:w.ownsRow base e 1 v l.length (Strs l)):w.ownsRow base e 1 v (Strs l).length (Strs l):=by
 rw[show(Strs l).length=l.length from aj _];exact h
structure JQ (u:Url):Prop where
 ok:sf u
 sm:Ee u
 bs:u.path.length<=307200000∧∀ x∈u.path,List.length x<=1024000000
theorem JQ.six {u:Url} (h:JQ u):u.host.six.length=8:=h.ok.h.l
theorem JQ.b {u:Url} (h:JQ u):Bs u.path:=⟨h.bs.1,h.bs.2⟩
theorem pR {s:Bytes} {u:Url} (hs:s.length<=1000) (h:gv s=some u):JQ u:=by
 have hl:=AJ hs (by omega) h
 exact⟨EJ (tQ h),Tt hl (ae _) (by omega),Ts hl (by omega)⟩

theorem Pj {s:Bytes} {k:Nat} (h:k<s.length):bz (s.drop k)=if iE s[k]=true then bz (s.drop (k+1))else s.drop k:=by
 rw[ay h]
 unfold bz
 cases hb:iE s[k]with
 |true=>rw[bh hb,if_pos rfl]
 |false=>rw[bC (by rw[hb];simp),if_neg (by simp)]
theorem ig (s:Bytes) (w:World) (hL:s.length<=1000000000):Calls prog 61 #[.string (bs s)] w fun e w'=>e=.returned (S (bz s))∧w'=w:=by
 obtain⟨b,hb⟩:=ap (bs s)
 obtain⟨L,hl⟩:=ap (s.length)
 have hsz:b.size=L:=by rw[hb,aB,hl]
 obtain⟨R,hR⟩:=ap (bz s)
 have HR0:=h_ (show R=bz (s.drop 0)from hR)
 have SL:=h_ (show L=s.length∧b=bs s from⟨hl,hb⟩)
 rw[<-hb,<-hR]
 rw[<-hl]at hL
 clear hb hl hR
 go_enter func61,ntmps61
 go_wp2_with fail
 go_loopw [3] (fun iv wr=>∃ k:Nat,k<=L∧iv=.int .i64 k∧Hid (R=bz (s.drop k))∧wr=w) (fun i _=>L-(intOf i).toNat)
 case atStart=>exact⟨0,aO _,rfl,HR0,rfl⟩
 case round =>
  obtain⟨k,hk,rfl,HR,hw⟩:=hrel
  subst wr
  by_cases hlt:k<L
  ·have hkl:k<s.length:=by have:=SL.out.1;omega
   have hkb:k<b.size:=by omega
   have hx:=bV SL.out.2 hkb hkl
   have hst:=HR.out
   rw[Pj hkl]at hst
   have hbl:=fun W=>iW (b2 s[k]) W
   have hbb:sq (b2 s[k])=iE s[k]:=rfl
   rw[hbb]at hbl
   obtain⟨z,hz⟩:=ap (b2 s[k])
   rw[<-hz]at hx hbl
   cases hq:iE s[k]with
   |true =>
    rw[hq,if_pos rfl]at hst
    rw[hq]at hbl
    have HS:=h_ hst
    have nB:=h_ hbl
    clear hst hbl hbb hz hq
    go_wp2_with (first|(go_at_call 37;refine(nB.out _).mono ?_;rintro e w3 ⟨rfl,hw⟩;subst w3)|fail)
    go_roundw
    case rel=>exact⟨k+1,by omega,by go_num,HS,by trivial⟩
    case measure=>simp[intOf];omega
   |false =>
    rw[hq,if_neg (by simp)]at hst
    rw[hq]at hbl
    have hex:b.extract k L=bs R:=by rw[SL.out.2,bM,hst,aI (by rw[ai];have:=SL.out.1;omega)]
    obtain⟨rb,hrb⟩:=ap (bs R)
    rw[<-hrb]at hex
    have ru:=h_ hrb
    have nB:=h_ hbl
    clear hst hbl hbb hz hq hrb
    go_wp2_with (first|(go_at_call 37;refine(nB.out _).mono ?_;rintro e w3 ⟨rfl,hw⟩;subst w3)|fail)
    go_ret
    exact⟨by rw[show S R=.string rb by rw[ru.out]];rfl,rfl⟩
  obtain rfl:k=L:=by omega
  have hst:=HR.out
  rw[SL.out.1,dh]at hst
  have HS:=h_ (show R=[]from hst)
  clear hst
  go_wp2_with fail
  go_ret
  exact⟨by rw[HS.out];rfl,rfl⟩

theorem UI (x:UInt8) (r:Bytes):(Lib.cut r [x]).1=r.takeWhile (· != x):=by
 by_cases h:x∈r
 ·obtain⟨p,q,e,hp,hc⟩:=my h
  rw[hc,e]
  have ha:∀ y∈p,(y != x)=true:=fun y hy=>by
   have:y≠x:=fun e=>hp (e▸hy)
   simpa using this
  rw[oD _ ha,bd (by simp),aV]
 rw[pw h]
 have ha:∀ y∈r,(y != x)=true:=fun y hy=>by
  have:y≠x:=fun e=>h (e▸hy)
  simpa using this
 have:=oD (d:=r) [] ha
 rw[aV]at this
 rw[this]
 simp
theorem yu (s:Bytes) (w:World) (hL:s.length<=1000000000) (hE:Env w):Calls prog 64 #[.string (bs s)] w fun e w'=>e=.returned (S (uv s))∧Below w.heap.size w w':=by
 cases s with
 |nil =>
  go_enter func64,ntmps64
  obtain⟨b,hb⟩:=ap (bs [])
  have e1:b.toList.isEmpty=true:=by rw[hb,au];rfl
  have e2:b.toList=[]:=by rw[hb,au]
  rw[<-hb]
  have HB:=h_ hb
  clear hb
  go_wp2_with fail
  go_ret
  exact⟨by rw[show S (uv [])=.string b by rw[HB.out];rfl];rfl,Below.refl _ _⟩
 |cons x r =>
  obtain⟨b,hb⟩:=ap (bs (x::r))
  have e1:b.toList.isEmpty=false:=by rw[hb,au];rfl
  have e2:¬ b.toList=[]:=by rw[hb,au];simp
  have hsz:b.size=r.length+1:=by rw[hb,aB];rfl
  have h0:0<b.size:=by omega
  have hx:=bV hb h0 (by simp)
  rw[show b2 (x::r)[0]=b2 x from rfl]at hx
  rw[<-hb]
  obtain⟨N,hN⟩:=ap (r.length+1)
  rw[<-hN]at hsz
  have hN1:1<=N:=by omega
  have hN0:0<N:=by omega
  have PR:(1:Int)<=(N:Int):=by omega
  by_cases hq:x=34∨x=39
  ·have hun:uv (x::r)=(Lib.cut r [x]).1:=by rw[UI];show(if x=34∨x=39 then r.takeWhile (· != x)else x::r)=_;rw[if_pos hq]
   obtain⟨rb,hrb⟩:=ap (bs r)
   obtain⟨xb,hxb⟩:=ap (bs [x])
   have rD:b.extract 1 N=rb:=by rw[hb,hrb,bM,hN];simp
   have nY:b.extract 0 1=xb:=by rw[hb,hxb,bM];simp
   have hct:=fun W (hW:Below w.heap.size w W)=>gy r [x] W (by rw[ag]at hL;omega) (hE.below hW)
   obtain⟨C,hC⟩:=ap (Lib.cut r [x])
   rw[<-hC]at hct hun
   rw[<-hrb,<-hxb]at hct
   have Rw:=h_ hct
   have HU:=h_ hun
   rcases hq with rfl|rfl
   all_goals
    clear hct hun hC hrb hxb hb hN
    first|rw[show b2 34=34 from rfl]at hx|rw[show b2 39=39 from rfl]at hx
    go_enter func64,ntmps64
    go_wp2_with fail
    refine wp_region_held_drew (S:=fun W=>Below w.heap.size w W) (by kernel_rfl) (by exact aJ (aG _)) (fun hHeld=>?_)
    refine tq 0 rfl ?_ (fun w hSw=>?_) ?_
    rotate_left
    ·(try dsimp only at hSw);go_simp;first|done|with_reducible rfl
    try simp only[Act.put,aK,aL,aM]
    refine tq 1 rfl ?_ (fun w hSw=>?_) ?_
    rotate_left
    ·(try dsimp only at hSw);go_simp;first|done|with_reducible rfl
    try simp only[Act.put,aK,aL,aM]
    refine tq 2 rfl ?_ (fun w hSw=>?_) ?_
    rotate_left
    ·(try dsimp only at hSw);go_simp;first|done|with_reducible rfl
    try simp only[Act.put,aK,aL,aM]
    refine tq 3 rfl ?_ (fun w hSw=>?_) ?_
    rotate_left
    ·(try dsimp only at hSw);go_simp;first|done|with_reducible rfl
    try simp only[Act.put,aK,aL,aM]
    refine rn 4 (by kernel_rfl) rfl (by rfl) (fun K hK=>?_)
    go_simp
    refine(Rw.out _ hHeld).mono ?_
    rintro e w3 ⟨rfl,hb3⟩
    have hB3:=hHeld.trans (hb3.mono hHeld.size)
    clear hb3
    refine hK.out _ _ ?_ (fun hHeld=>?_)
    ·first|exact aJ (aG _)|assumption
    clear hK K
    try simp only[Act.put,aK,aL,aM]
    refine tq 5 rfl ?_ (fun w hSw=>?_) ?_
    rotate_left
    ·(try dsimp only at hSw);go_simp;first|done|with_reducible rfl
    try simp only[Act.put,aK,aL,aM]
    refine tq 6 rfl ?_ (fun w hSw=>?_) ?_
    rotate_left
    ·(try dsimp only at hSw);go_simp;first|done|with_reducible rfl
    try simp only[Act.put,aK,aL,aM]
    refine tq 7 rfl ?_ (fun w hSw=>?_) ?_
    rotate_left
    ·(try dsimp only at hSw);go_simp;first|done|with_reducible rfl
    try simp only[Act.put,aK,aL,aM]
    refine tq 8 rfl ?_ (fun w hSw=>?_) ?_
    rotate_left
    ·(try dsimp only at hSw);go_simp;first|done|with_reducible rfl
    try simp only[Act.put,aK,aL,aM]
    refine tq 9 rfl ?_ (fun w hSw=>?_) ?_
    rotate_left
    ·(try dsimp only at hSw);go_simp;first|done|with_reducible rfl
    try simp only[Act.put,aK,aL,aM]
    refine tq 10 rfl ?_ (fun w hSw=>?_) ?_
    rotate_left
    ·(try dsimp only at hSw);go_simp;first|done|with_reducible rfl
    try simp only[Act.put,aK,aL,aM]
    refine tq 11 rfl ?_ (fun w hSw=>?_) ?_
    rotate_left
    ·(try dsimp only at hSw);go_simp;first|done|with_reducible rfl
    try simp only[Act.put,aK,aL,aM]
    refine wpAnyH_done (by kernel_rfl) ?_ _
    go_wp2_with fail
    go_ret
    exact⟨by rw[HU.out];rfl,hB3⟩
  have hun:uv (x::r)=x::r:=by show(if x=34∨x=39 then r.takeWhile (· != x)else x::r)=_;rw[if_neg hq]
  have q34:(b2 x==34)=false:=by simp;exact fun e=>hq (.inl (dz e))
  have Tj:(b2 x==39)=false:=by simp;exact fun e=>hq (.inr (dz e))
  obtain⟨z,hz⟩:=ap (b2 x)
  rw[<-hz]at hx q34 Tj
  have a4J:¬ z=34:=by simpa using q34
  have Wg:¬ z=39:=by simpa using Tj
  have n34:(z != 34)=true:=by simpa using a4J
  have n39:(z != 39)=true:=by simpa using Wg
  have HU:=h_ (show S (uv (x::r))=.string b by rw[hun,hb])
  clear hun hq hz hb hN
  go_enter func64,ntmps64
  go_wp2_with fail
  go_ret
  exact⟨by rw[HU.out];rfl,Below.refl _ _⟩
theorem UW (l:Bytes):Lib.hasPrefix l [61]=decide (l.head? = some 61):=by
 cases l with
 |nil=>rfl
 |cons x r =>
  show((61==x)&&true)=_
  rw[lH,mM]
  by_cases h:x=61
  ·subst h;rfl
  rw[decide_eq_false (by simpa using h)]
  simp only[beq_eq_false_iff_ne]
  exact fun e=>h e.symm
theorem AL (s:Bytes) (w:World) (hL:s.length<=1000000000):Calls prog 65 #[.string (bs s)] w fun e w'=>e=.returned (S (jy s))∧Below w.heap.size w w':=by
 obtain⟨b,hb⟩:=ap (bs s)
 obtain⟨N,hN⟩:=ap (s.length)
 have hsz:b.size=N:=by rw[hb,aB,hN]
 have hS:S s=.string b:=by rw[hb]
 obtain⟨U,hU⟩:=ap (jy s)
 rw[<-hb,<-hU]
 by_cases h3:s.length<3
 ·have HU:=h_ (show S U=.string b by
   rw[hU,<-hS]
   unfold jy
   rw[if_neg]
   intro e
   have:=congrArg List.length e
   rw[aj,aA]at this
   simp[NU]at this
   omega)
  have hN3:(N:Int)<3:=by omega
  clear hU hS hb hN h3
  go_enter func65,ntmps65
  go_wp2_with fail
  go_ret
  exact⟨by rw[HU.out];rfl,Below.refl _ _⟩
 have hN3:3<=N:=by omega
 have a8G:¬ (N:Int)<3:=by omega
 obtain⟨tb,htb⟩:=ap (bs (s.take 3))
 have hex:b.extract 0 3=tb:=by rw[hb,htb,bM];simp
 have hlo:=fun W=>qy (s.take 3) W (by rw[aA];unfold maxLen;omega)
 unfold JP at hlo
 rw[<-htb]at hlo
 obtain⟨lb,hlb⟩:=ap (bs ((s.take 3).map dc))
 rw[show S ((s.take 3).map dc)=.string lb by rw[hlb]]at hlo
 have HLO:=h_ hlo
 by_cases hu:(s.take 3).map dc=NU
 ·have hue:jy s=match bz (s.drop 3)with
   | []=>s
   |c::t=>if c=61 then bz t else s:=by unfold jy;rw[if_pos hu];rfl
  have q1:(lb.toList == [117,114,108])=true:=by rw[hlb,au,hu];rfl
  have q2:lb.toList=[117,114,108]:=by rw[hlb,au,hu];rfl
  obtain⟨db,hdb⟩:=ap (bs (s.drop 3))
  have xL:b.extract 3 N=db:=by rw[hb,hdb,bM,hN,aI (by rw[ai];omega)]
  obtain⟨Z,hZ⟩:=ap (bz (s.drop 3))
  have hZl:Z.length<=1000000000:=by
   rw[hZ]
   refine aq (ct _).length_le ?_
   rw[ai];omega
  have hb1:=fun W=>ig (s.drop 3) W (by rw[ai];omega)
  rw[<-hdb,<-hZ]at hb1
  obtain⟨zb,hzb⟩:=ap (bs Z)
  rw[show S Z=.string zb by rw[hzb]]at hb1
  have HB1:=h_ hb1
  have hcp:=fun W=>sx Z [61] W
  rw[<-hzb,UW]at hcp
  rw[<-hZ]at hue
  by_cases hh:Z.head? = some 61
  ·obtain⟨t,ht⟩:∃ t,Z=61::t:=by
    cases Z with
    |nil=>cases hh
    |cons c t=>exact⟨t,by rw[mM]at hh;rw[bw hh]⟩
   rw[ht]at hue hZl
   rw[decide_eq_true hh,ht,show Lib.trimPrefix (61::t) [61]=t from rfl]at hcp
   obtain⟨tt,AX⟩:=ap (bs t)
   rw[show S t=.string tt by rw[AX]]at hcp
   have hb2:=fun W=>ig t W (by rw[ag]at hZl;omega)
   rw[<-AX]at hb2
   have Bd:=h_ (show ∀W,Calls prog 95 #[.string zb,.string ⟨#[61]⟩] W fun e w'=>e=.returned (.tuple #[.string tt,.bool true])∧w'=W from hcp)
   have HB2:=h_ hb2
   have HU:=h_ (show U=bz t by rw[hU,hue];rfl)
   clear hU hS hb hN h3 hlo hu hue hZ hb1 hzb hcp hh ht AX hb2 hdb hlb htb hZl
   go_enter func65,ntmps65
   go_wp2_with (first
    |(go_at_call 70;refine(HLO.out _).mono ?_;rintro e w1 ⟨rfl,hb1⟩;have HW1:=h_ hb1;clear hb1)
    |(go_at_call 61;with_reducible first|refine(HB1.out _).mono ?_;rintro e w2 ⟨rfl,hw⟩;subst w2)
    |(go_at_call 95;refine(Bd.out _).mono ?_;rintro e w3 ⟨rfl,hw⟩;subst w3)
    |(go_at_call 61;with_reducible first|refine(HB2.out _).mono ?_;rintro e w4 ⟨rfl,hw⟩;subst w4)
    |fail)
   go_ret
   exact⟨by rw[HU.out];rfl,HW1.out⟩
  rw[decide_eq_false hh]at hcp
  obtain⟨tt,AX⟩:=ap (Lib.trimPrefix Z [61])
  rw[<-AX]at hcp
  have Bd:=h_ (show ∀W,Calls prog 95 #[.string zb,.string ⟨#[61]⟩] W fun e w'=>e=.returned (.tuple #[S tt,.bool false])∧w'=W from hcp)
  have HU:=h_ (show S U=.string b by
   rw[hU,<-hS,hue]
   cases Z with
   |nil=>rfl
   |cons c t =>
    have:c≠61:=fun e=>hh (by rw[e];rfl)
    show S (if c=61 then bz t else s)=S s
    rw[if_neg this])
  clear hU hS hb hN h3 hlo hu hue hZ hb1 hzb hcp hh AX hdb hlb htb hZl
  go_enter func65,ntmps65
  go_wp2_with (first
   |(go_at_call 70;refine(HLO.out _).mono ?_;rintro e w1 ⟨rfl,hb1⟩;have HW1:=h_ hb1;clear hb1)
   |(go_at_call 61;with_reducible first|refine(HB1.out _).mono ?_;rintro e w2 ⟨rfl,hw⟩;subst w2)
   |(go_at_call 95;refine(Bd.out _).mono ?_;rintro e w3 ⟨rfl,hw⟩;subst w3)
   |fail)
  go_ret
  exact⟨by rw[HU.out];rfl,HW1.out⟩
 have q1:(lb.toList == [117,114,108])=false:=by rw[hlb,au];exact beq_eq_false_iff_ne.mpr hu
 have q2:¬ lb.toList=[117,114,108]:=by rw[hlb,au];exact hu
 have HU:=h_ (show S U=.string b by rw[hU,<-hS];unfold jy;rw[if_neg hu])
 clear hU hS hb hN h3 hlo hu hlb htb
 go_enter func65,ntmps65
 go_wp2_with (first
  |(go_at_call 70;refine(HLO.out _).mono ?_;rintro e w1 ⟨rfl,hb1⟩;have HW1:=h_ hb1;clear hb1)
  |fail)
 go_ret
 exact⟨by rw[HU.out];rfl,HW1.out⟩

def oC:Url:={U0 with aC:=[104,116,116,112],host:={H0 with kind:=2,name:=[104]},path:=[[97],[98]]}
theorem a0B:JQ oC:=⟨⟨⟨by decide,by decide,rfl,by decide⟩,by decide⟩,⟨by decide,by decide,by decide,by decide,by decide,by decide,by decide,by decide⟩,by decide,by decide⟩
def srX:Url:={U0 with aC:=[120],opq:=true,flat:=[121]}
def srC:Url:={oC with path:=[[97],[99]]}
def srD:Url:={oC with path:=[[97],[100]]}
abbrev Q0:Bytes:=[38,35,49,50,48,59,58,121]
abbrev Q5:Bytes:=[99,32,49,120,44,32,104,116,116,112,58,47,47,97,58,98,44,32,100]
abbrev Q7:Bytes:=[53]
abbrev Q8:Bytes:=[120]
abbrev ny:Bytes:=[97,0,255,38,97,109,112,59,38,35,51,56,59,97,109,112,59]
theorem srP:gv [104,116,116,112,58,47,47,104,47,97,47,98]=some oC:=by kernel_rfl
theorem a4S:jz ny=[97,239,191,189,239,191,189,38,38,97,109,112,59]:=by kernel_rfl
theorem a4O:rG 1 oC (jz Q0)=⟨[⟨true,srX,[]⟩],[]⟩:=by kernel_rfl
theorem a4P:rG 2 oC (jz Q5)=⟨[⟨true,srC,[[49,120]]⟩,⟨false,U0,[]⟩,⟨true,srD,[]⟩],[]⟩:=by kernel_rfl
theorem a4Q:rG 3 oC (jz Q7)=⟨[⟨true,oC,[]⟩],[53]⟩:=by kernel_rfl
theorem a4R:rG 3 oC (jz Q8)=⟨[],[]⟩:=by kernel_rfl
end Go.Proofs.YtmndlfglgcioeaaGreatDoor
