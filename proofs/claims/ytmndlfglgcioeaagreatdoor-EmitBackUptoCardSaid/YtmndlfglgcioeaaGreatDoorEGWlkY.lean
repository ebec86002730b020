/- Joined texts. -/
import Derived.Test.YtmndlfglgcioeaaGreatDoorEGWlkT
set_option maxHeartbeats 40000000
namespace Go.Proofs.YtmndlfglgcioeaaGreatDoor
open Tryz
open Go.RowKit
set_option maxRecDepth 10000
theorem yV(s:Bytes):(eh s).length<=s.length:=ap (z7 _) (tA _)
theorem zW(s:Bytes):(fc s).rest.length<=s.length∧(fc s).q.length<=s.length∧(fc s).f.length<=s.length:=by
 have a:=jx 35 s;have b:=jx 63 (bY 35 s).1;have c:=jx 58 (bY 63 (bY 35 s).1).1;unfold fc;dsimp only
 split <;>(dsimp only;omega)
theorem a5H(p:lH):(bg p).all (·.oneCell')=true:=all_oneCell_toArray (cs:=(bg p).toList) Kr
theorem rf{f:Func}{k m:Nat}(hf:f.results=#[.cell k 30,.tmp m]){tmps:Array Value}{w0 w2:World}{b:Nat}{pv:Value}{u:Url}{q:Bool}{Post:Ending->World->Prop}(h8:u.host.six.length=8)(hk:tmps.getD k undef=.pointer (some ⟨b,0,none⟩))(hm:tmps.getD m undef=.bool q)
  (i:OB w0 b 30 (ai pv u) w2) (hP:Post (.returned (.tuple #[.agg (ai pv u),.bool q])) w2) :
  bodyPost prog f Post Exit.ret {tmps:=tmps,defers:=[]} w2:=by
 have h2':tmps[k]?.getD undef=.pointer (some ⟨b,0,none⟩):=by simpa using hk
 have h3':tmps[m]?.getD undef=.bool q:=by simpa using hm
 have hl:=i.load (P:=prog) 30 _ underlying30 rfl (by rw[jX h8];exact iI);refine bodyPost_ret (v:=.tuple #[.agg (ai pv u),.bool q]) ?_ rfl hP;simp[results,hf,asAddr,h2',h3',hl]
theorem IE(s:Bytes)(w:World)(hs:s.length<=1048576)(hE:Env w):Calls prog 28 #[.string (bs s)] w (yL w (gM s)):=by
 have hcl:=yV s;obtain⟨p,hp⟩:=az (fc (eh s));have hsl:=zW (eh s);rw[<-hp]at hsl;have hJ8:∀ u,eU U0 p=some u->u.host.six.length=8:=fun u h=>oS (b:=U0) rfl h;obtain⟨c,hc⟩:=az (bs (eh s));have yj:=h_ (show ∀W,bN prog 34 #[.string (bs s)] W (.string c)from fun W=>by rw[hc];exact yU s W (by omega));have j0:=h_ (show ∀W,Below w.heap.size w W->bN prog 33 #[.string c] W (.agg (bg p))from fun W hb=>by rw[hc,hp];exact zU (eh s) W (by omega) (hE.below hb));have Cb:=h_ (fun W (hb:Below w.heap.size w W)=>Ab U0 aR p W rfl Sl.nil ⟨by simp[U0],by simp[U0]⟩ (YR (by omega)) (by omega) (by omega) (hE.below hb));obtain⟨R,hR⟩:=az (gM s);rw[<-hR];unfold gM at hR;rw[<-hp]at hR;obtain⟨z,hz⟩:=az (bs s);rw[<-hz]at yj ⊢;have HR:=h_ hR;have Zf:=h_ hJ8;clear hR hz hc hp hsl hcl hs hE hJ8;go_enter func28,ntmps28
 go_upto_region 1 with(first
  |(refine aS rfl 30 rfl _ _ (ef _) ?_)
  |fail)
 have IA:=h_ (OB.fresh w 30 (ai aR U0));obtain⟨w1,hw1⟩:=az (w.alloc (.cells (ai aR U0) 30));rw[<-hw1]at IA ⊢;clear hw1
 go_upto_region 2 with(first
  |(go_at_call 34;refine(yj.out _).mono ?_;rintro e w2 ⟨rfl,hb⟩;have I2:=h_ (IA.out.below hb);clear hb)
  |(go_at_call 33;refine(j0.out _ I2.out.bL).mono ?_;rintro e w3 ⟨rfl,hb⟩;have I3:=h_ (I2.out.below hb);clear hb)
  |(refine aS rfl 68 rfl _ _ (a3w _) ?_)
  |(refine mg rfl 68 (.tmp 4) (.tmp 7) rfl (bg p) (bg P0) nH rfl (a5H p) rfl rfl rfl ?_;intro w4 h4 hb;have X4:=h_ h4;have I4:=h_ (I3.out.below hb);clear h4 hb)
  |fail)
 have d0:=X4.out.aF (j:=0) (v:=.bool p.iO) rfl;cases hS:p.iO with
 |false =>
  rw[hS]at d0;have dH:=h_ (show R=none by rw[HR.out,if_neg (by simp[hS])]);clear hS
  go_wp2_with (first
   |(refine fU rfl (.tmp 2) (.tmp 11) rfl w w.heap.size I4.out aR U0 rfl rfl rfl rfl ?_;intro w5 i5 _;have I5:=h_ i5;clear i5)
   |fail)
  rw[dH.out];exact rf (u:=U0) (q:=false) results28 rfl rfl rfl I5.out ⟨rfl,I5.out.bL⟩
 |true =>
  rw[hS]at d0;have uK:=h_ (show R=eU U0 p by rw[HR.out,if_pos hS]);clear hS;cases hJ:eU U0 p with
  |none =>
   have dH:=h_ (show R=none by rw[uK.out,hJ]);have yo:=h_ (fun W hb=>(show bN prog 32 #[.agg (ai aR U0),.agg (bg p)] W (.tuple #[.agg (ai aR U0),.bool false])from by have h:=Cb.out W hb;rw[hJ]at h;exact h));clear hJ
   go_wp2_with (first
    |(refine lj rfl (.tmp 4) rfl w3.heap.size p X4.out rfl ?_)
    |(go_at_call 32;refine(yo.out _ I4.out.bL).mono ?_;rintro e w5 ⟨rfl,hb⟩;have I5:=h_ (I4.out.below hb);clear hb)
    |(refine fU rfl (.tmp 2) (.tmp 15) rfl w w.heap.size I5.out aR U0 rfl rfl rfl rfl ?_;intro w6 i6 _;have I6:=h_ i6;clear i6)
    |fail)
   rw[dH.out];exact rf (u:=U0) (q:=false) results28 rfl rfl rfl I6.out ⟨rfl,I6.out.bL⟩
  |some u =>
   have dH:=h_ (show R=some u by rw[uK.out,hJ]);have U8:=h_ (Zf.out u hJ);have yo:=h_ (fun W hb=>(show Calls prog 32 #[.agg (ai aR U0),.agg (bg p)] W fun e w'=>∃ pv,e=.returned (.tuple #[.agg (ai pv u),.bool true])∧w'.ownsRow W.heap.size 9 1 pv u.path.length (Strs u.path)∧Below W.heap.size W w' from by have h:=Cb.out W hb;rw[hJ]at h;exact h));clear hJ
   go_wp2_with (first
    |(refine lj rfl (.tmp 4) rfl w3.heap.size p X4.out rfl ?_)
    |(go_at_call 32;refine(yo.out _ I4.out.bL).mono ?_;rintro e w5 ⟨pv,rfl,o5,hb⟩;have I5:=h_ (I4.out.below hb);have O5:=h_ (bh o5 (show w.heap.size+1<=_ from I4.out.lt));clear hb o5)
    |(refine fU rfl (.tmp 2) (.tmp 15) rfl w w.heap.size I5.out pv u U8.out (bm O5.out) rfl rfl ?_;intro w6 i6 t6;have I6:=h_ i6;have O6:=h_ (bh (t6.row O5.out (bO _)) (gQ _));clear i6 t6)
    |fail)
   rw[dH.out];exact rf (u:=u) (q:=true) results28 U8.out rfl rfl I6.out ⟨pv,rfl,O6.out,I6.out.bL⟩
theorem a52(w:World)(bv:Value)(u:Url):∃ W,(w.alloc (.cells (ai bv u) 30)).alloc (.cells (ai aR U0) 30)=W∧CB W w.heap.size 30 (ai bv u)∧OB w (w.heap.size+1) 30 (ai aR U0) W:=by
 have hx:=CB.new w 30 (ai bv u);have hb:=(Below.refl w.heap.size w).alloc (af _) (.cells (ai bv u) 30);obtain⟨w1,hw1⟩:=az (w.alloc (.cells (ai bv u) 30));have hz1:w1.heap.size=w.heap.size+1:=by rw[hw1];simp
 rw[<-hw1]at hx hb ⊢;have hy:=CB.new w1 30 (ai aR U0);have hb2:=(Below.refl w1.heap.size w1).alloc (af _) (.cells (ai aR U0) 30);rw[hz1]at hy;exact⟨_,rfl,hx.keep hb2,OB.of hy (gQ _) (iK hb hb2)⟩
theorem Nb(bu:Url)(bv:Value)(s:Bytes)(w:World)(h8:bu.host.six.length=8)(hbv:Sl w.heap.size w bv (bu.path.map S))(hbs:Bs bu.path)(hs:s.length<=1048576)(hE:Env w):Calls prog 12 #[.agg (ai bv bu),.string (bs s)] w (yL w (lX bu s)):=by
 have hcl:=yV s;obtain⟨p,hp⟩:=az (fc (eh s));have hsl:=zW (eh s);rw[<-hp]at hsl;have Zf:=h_ (fun u (h:eU bu p=some u)=>oS h8 h);obtain⟨c,hc⟩:=az (bs (eh s));have yj:=h_ (show ∀W,bN prog 34 #[.string (bs s)] W (.string c)from fun W=>by rw[hc];exact yU s W (by omega));have j0:=h_ (show ∀W,Below w.heap.size w W->bN prog 33 #[.string c] W (.agg (bg p))from fun W hb=>by rw[hc,hp];exact zU (eh s) W (by omega) (hE.below hb));have Cb:=h_ (fun W (hb:Below w.heap.size w W)=>Ab bu bv p W h8 ((hbv.below hb).more hb.size) hbs (YR (by omega)) (by omega) (by omega) (hE.below hb));have H8:=h_ h8;show Calls _ _ _ _ (yL w (eU bu (fc (eh s))));rw[<-hp];obtain⟨z,hz⟩:=az (bs s);rw[<-hz]at yj ⊢;clear hz hc hp hsl hcl hs hE h8 hbv hbs;obtain⟨W2,hw2,k1,k2⟩:=a52 w bv bu;have K1:=h_ k1;have K2:=h_ k2;have HW2:=h_ hw2;clear k1 k2 hw2;have HUI:=h_ (show(prog.info? 30).map (·.size)=some (ai bv bu).size by rw[jX H8.out];exact iI);cases hJ:eU bu p with
 |none =>
  have yo:=h_ (fun W hb=>(show bN prog 32 #[.agg (ai bv bu),.agg (bg p)] W (.tuple #[.agg (ai aR U0),.bool false])from by have h:=Cb.out W hb;rw[hJ]at h;exact h));clear hJ;go_enter func12,ntmps12
  go_upto_region 1 with(first
   |(refine aS rfl 30 rfl _ _ (ef _) ?_)
   |fail)
  rw[HW2.out];have C1:=h_ (K1.out.keep (bH (bz _)));have I1:=h_ (K2.out.below (bH (bz _)));refine wp_region_held_drew (S:=fun W=>CB W w.heap.size 30 (ai bv bu)) (by kernel_rfl) (by with_reducible first|exact C5.out|exact C4.out|exact C3.out|exact C2.out|exact C1.out) (fun hHeld=>?_);refine tq 0 rfl ?_ (fun wS hSw=>?_) ?_;rotate_left
  ·(try dsimp only at hSw)
   refine iW 30 (.tmp 2) ?_ w.heap.size (ai bv bu) _ underlying30 rfl HUI.out ?_ ?_
   ·rfl
   ·rfl
   exact hSw
  try simp only[Act.put,cE,cF,cG]
  refine tq 1 rfl ?_ (fun wS hSw=>?_) ?_;rotate_left
  ·(try dsimp only at hSw);go_simp;first|done|with_reducible rfl
  try simp only[Act.put,cE,cF,cG]
  refine rn 2 (by kernel_rfl) rfl (by rfl) (fun K hK=>?_)
  go_simp
  refine(yj.out _).mono ?_;rintro e w2 ⟨rfl,hb⟩;have C2:=h_ (C1.out.keep hb);have I2:=h_ (I1.out.below hb);clear hb;refine hK.out _ _ ?_ (fun hHeld=>?_)
  ·with_reducible first|exact C5.out|exact C4.out|exact C3.out|exact C2.out|exact C1.out
  clear hK K
  try simp only[Act.put,cE,cF,cG]
  refine rn 3 (by kernel_rfl) rfl (by rfl) (fun K hK=>?_)
  go_simp
  refine(j0.out _ I2.out.bL).mono ?_;rintro e w3 ⟨rfl,hb⟩;have C3:=h_ (C2.out.keep hb);have I3:=h_ (I2.out.below hb);clear hb;refine hK.out _ _ ?_ (fun hHeld=>?_)
  ·with_reducible first|exact C5.out|exact C4.out|exact C3.out|exact C2.out|exact C1.out
  clear hK K
  try simp only[Act.put,cE,cF,cG]
  refine rn 4 (by kernel_rfl) rfl (by rfl) (fun K hK=>?_)
  go_simp
  refine(yo.out _ I3.out.bL).mono ?_;rintro e w4 ⟨rfl,hb⟩;have C4:=h_ (C3.out.keep hb);have I4:=h_ (I3.out.below hb);clear hb;refine hK.out _ _ ?_ (fun hHeld=>?_)
  ·with_reducible first|exact C5.out|exact C4.out|exact C3.out|exact C2.out|exact C1.out
  clear hK K
  try simp only[Act.put,cE,cF,cG]
  refine tq 5 rfl ?_ (fun wS hSw=>?_) ?_;rotate_left
  ·(try dsimp only at hSw);go_simp;first|done|with_reducible rfl
  try simp only[Act.put,cE,cF,cG]
  refine tq 6 rfl ?_ (fun wS hSw=>?_) ?_;rotate_left
  ·(try dsimp only at hSw);go_simp;first|done|with_reducible rfl
  try simp only[Act.put,cE,cF,cG]
  refine rn 7 (by kernel_rfl) rfl (by rfl) (fun K hK=>?_);refine lW 30 (.tmp 4) (.tmp 11) rfl w (w.heap.size+1) 30 (ai aR U0) I4.out 0 (aV aR U0) rfl rfl (af _) iI (xX rfl) (ai aR U0) (sf rfl rfl) ?_;intro w5 i5 t5;have I5:=h_ i5;have C5:=h_ (t5.cb C4.out (cV (bO _)));clear i5 t5;refine hK.out _ _ ?_ (fun hHeld=>?_)
  ·with_reducible first|exact C5.out|exact C4.out|exact C3.out|exact C2.out|exact C1.out
  clear hK K
  try simp only[Act.put]
  refine tq 8 rfl ?_ (fun wS hSw=>?_) ?_;rotate_left
  ·(try dsimp only at hSw);go_simp;first|done|with_reducible rfl
  try simp only[Act.put,cE,cF,cG]
  refine wpAnyH_done (by kernel_rfl) ?_ _
  go_wp2_with fail
  exact rf (u:=U0) (q:=false) results12 rfl rfl rfl I5.out ⟨rfl,I5.out.bL⟩
 |some u =>
  have U8:=h_ (Zf.out u hJ);have yo:=h_ (fun W hb=>(show Calls prog 32 #[.agg (ai bv bu),.agg (bg p)] W fun e w'=>∃ pv,e=.returned (.tuple #[.agg (ai pv u),.bool true])∧w'.ownsRow W.heap.size 9 1 pv u.path.length (Strs u.path)∧Below W.heap.size W w' from by have h:=Cb.out W hb;rw[hJ]at h;exact h));clear hJ;go_enter func12,ntmps12
  go_upto_region 1 with(first
   |(refine aS rfl 30 rfl _ _ (ef _) ?_)
   |fail)
  rw[HW2.out];have C1:=h_ (K1.out.keep (bH (bz _)));have I1:=h_ (K2.out.below (bH (bz _)));refine wp_region_held_drew (S:=fun W=>CB W w.heap.size 30 (ai bv bu)) (by kernel_rfl) (by with_reducible first|exact C5.out|exact C4.out|exact C3.out|exact C2.out|exact C1.out) (fun hHeld=>?_);refine tq 0 rfl ?_ (fun wS hSw=>?_) ?_;rotate_left
  ·(try dsimp only at hSw)
   refine iW 30 (.tmp 2) ?_ w.heap.size (ai bv bu) _ underlying30 rfl HUI.out ?_ ?_
   ·rfl
   ·rfl
   exact hSw
  try simp only[Act.put,cE,cF,cG]
  refine tq 1 rfl ?_ (fun wS hSw=>?_) ?_;rotate_left
  ·(try dsimp only at hSw);go_simp;first|done|with_reducible rfl
  try simp only[Act.put,cE,cF,cG]
  refine rn 2 (by kernel_rfl) rfl (by rfl) (fun K hK=>?_)
  go_simp
  refine(yj.out _).mono ?_;rintro e w2 ⟨rfl,hb⟩;have C2:=h_ (C1.out.keep hb);have I2:=h_ (I1.out.below hb);clear hb;refine hK.out _ _ ?_ (fun hHeld=>?_)
  ·with_reducible first|exact C5.out|exact C4.out|exact C3.out|exact C2.out|exact C1.out
  clear hK K
  try simp only[Act.put,cE,cF,cG]
  refine rn 3 (by kernel_rfl) rfl (by rfl) (fun K hK=>?_)
  go_simp
  refine(j0.out _ I2.out.bL).mono ?_;rintro e w3 ⟨rfl,hb⟩;have C3:=h_ (C2.out.keep hb);have I3:=h_ (I2.out.below hb);clear hb;refine hK.out _ _ ?_ (fun hHeld=>?_)
  ·with_reducible first|exact C5.out|exact C4.out|exact C3.out|exact C2.out|exact C1.out
  clear hK K
  try simp only[Act.put,cE,cF,cG]
  refine rn 4 (by kernel_rfl) rfl (by rfl) (fun K hK=>?_)
  go_simp
  refine(yo.out _ I3.out.bL).mono ?_;rintro e w4 ⟨pv,rfl,o4,hb⟩;have C4:=h_ (C3.out.keep hb);have I4:=h_ (I3.out.below hb);have O4:=h_ (bh o4 (show w.heap.size+2<=_ from I3.out.lt));clear o4;clear hb;refine hK.out _ _ ?_ (fun hHeld=>?_)
  ·with_reducible first|exact C5.out|exact C4.out|exact C3.out|exact C2.out|exact C1.out
  clear hK K
  try simp only[Act.put,cE,cF,cG]
  refine tq 5 rfl ?_ (fun wS hSw=>?_) ?_;rotate_left
  ·(try dsimp only at hSw);go_simp;first|done|with_reducible rfl
  try simp only[Act.put,cE,cF,cG]
  refine tq 6 rfl ?_ (fun wS hSw=>?_) ?_;rotate_left
  ·(try dsimp only at hSw);go_simp;first|done|with_reducible rfl
  try simp only[Act.put,cE,cF,cG]
  refine rn 7 (by kernel_rfl) rfl (by rfl) (fun K hK=>?_);refine lW 30 (.tmp 4) (.tmp 11) rfl w (w.heap.size+1) 30 (ai aR U0) I4.out 0 (aV pv u) rfl rfl (by rw[pm U8.out];exact bR rfl) (by rw[pm U8.out];exact iI) (xX (bm O4.out)) (ai pv u) (sf rfl U8.out) ?_;intro w5 i5 t5;have I5:=h_ i5;have O5:=h_ (bh (t5.row O4.out (bO _)) (Nat.le_add_right _ 2));have C5:=h_ (t5.cb C4.out (cV (bO _)));clear i5 t5;refine hK.out _ _ ?_ (fun hHeld=>?_)
  ·with_reducible first|exact C5.out|exact C4.out|exact C3.out|exact C2.out|exact C1.out
  clear hK K
  try simp only[Act.put]
  refine tq 8 rfl ?_ (fun wS hSw=>?_) ?_;rotate_left
  ·(try dsimp only at hSw);go_simp;first|done|with_reducible rfl
  try simp only[Act.put,cE,cF,cG]
  refine wpAnyH_done (by kernel_rfl) ?_ _
  go_wp2_with fail
  exact rf (u:=u) (q:=true) results12 U8.out rfl rfl I5.out ⟨pv,rfl,O5.out,I5.out.bL⟩

theorem Xf(a b c d e g i j a' b' c' d' e' g' i' j':Int)(D:Nat)(w:World):(Op.equalIn (D+2) 25 (.agg #[.int .u16 a,.int .u16 b,.int .u16 c,.int .u16 d,.int .u16 e,.int .u16 g,.int .u16 i,.int .u16 j]) (.agg #[.int .u16 a',.int .u16 b',.int .u16 c',.int .u16 d',.int .u16 e',.int .u16 g',.int .u16 i',.int .u16 j'])).run prog w=.ok (decide ([a,b,c,d,e,g,i,j]=[a',b',c',d',e',g',i',j'])) w:=by
 have hu:=underlying24;obtain⟨i8,tT,hz⟩:∃ i,prog.info? 24=some i∧i.size=1:=⟨_,rfl,by kernel_rfl⟩;have hc:prog.cellsOf 24=1:=by kernel_rfl
 rw[run_equalIn_array w (D+1) _ _ underlying25 tT,hc,show List.range 8=[0,1,2,3,4,5,6,7]from rfl];simp only[Op.eqItems];clear hc hz tT
 go_simp
 repeat' split
 all_goals simp_all
theorem Wh(h h':ie)(hl:h.six.length=8)(hl':h'.six.length=8)(w:World)(q:Bool)(hq:q=true ↔ h=h'):(binOp .eql 27 (.agg (cd h)) (.agg (cd h'))).run prog w=.ok (.bool q) w:=by
 obtain⟨k,n,f,six⟩:=h;obtain⟨k',n',f',six'⟩:=h';simp only at hl hl';obtain⟨a,b,c,d,e,g,i,j,rfl⟩:=eight hl;obtain⟨a',b',c',d',e',g',i',j',rfl⟩:=eight hl';have hS:prog.underlying 27=some (.struct (prog.fieldsOf 27)):=by kernel_rfl
 have hp:prog.stoodInHeld 27=false:=by kernel_rfl
 have hc:cd ⟨k,n,f,[a,b,c,d,e,g,i,j]⟩=#[.int .i64 k,.string (bs n),.int .u32 f,.int .u16 a,.int .u16 b,.int .u16 c,.int .u16 d,.int .u16 e,.int .u16 g,.int .u16 i,.int .u16 j]:=rfl;have hc':cd ⟨k',n',f',[a',b',c',d',e',g',i',j']⟩=#[.int .i64 k',.string (bs n'),.int .u32 f',.int .u16 a',.int .u16 b',.int .u16 c',.int .u16 d',.int .u16 e',.int .u16 g',.int .u16 i',.int .u16 j']:=rfl;have h6:=fun W=>Xf a b c d e g i j a' b' c' d' e' g' i' j' 9997 W;have hn:=yC n n';obtain⟨N,hN⟩:=az (bs n);obtain⟨M,hM⟩:=az (bs n');rw[<-hN,<-hM]at hn;rw[hc,hc',run_eql_struct,show(10000:Nat)=9999+1 from rfl,run_equalIn_agg w 9999 27 _ _ hS hp];rw[<-hN,<-hM];simp only[Program.fieldsOf,underlying27];obtain⟨X,hX⟩:=az (decide ([a,b,c,d,e,g,i,j]=[a',b',c',d',e',g',i',j']));rw[<-hX]at h6;clear hc hc' hN hM
 have hq2:q=(decide (k=k')&&decide (n=n')&&decide (f=f')&&X):=by
  rw[cK,hq,hX];simp[and_assoc]
 clear hX hq;subst hq2
 go_simp
 repeat' split
 all_goals simp_all
section
variable {ops:Array Oper} {rest:List Oper} {o:Oper} {a:Act} {w:World} {Q:Exit->Act->World->Prop}
theorem a8L(hg:Region.wanted o (yielded ops a.tmps)=true)(x y:Operand)(ho:o.op=.binOp .eql 27 x y 27)(h h':ie)(hl:h.six.length=8)(hl':h'.six.length=8)(q:Bool)(hq:q=true ↔ h=h')(hx:a.eval x=.agg (cd h))(hy:a.eval y=.agg (cd h'))
  (k:wpList prog ops Q rest (a.put o.dst (.bool q)) w):wpList prog ops Q (o::rest) a w:=by
 refine Ac hg (.bool q) ?_ k;have e:=Wh h h' hl hl' w q hq;have g:=run_eqGuard_agg (P:=prog) w .eql 27 x y (cd h) (cd h') (by kernel_rfl);unfold execOp;simp only[ho,hx,hy,Sem.run_bind,Sem.run_pure,Result.andThen_ok,e,g]
theorem Sf(hg:Region.wanted o (yielded ops a.tmps)=true)(x:Operand)(ho:o.op=.load 27 x)(b k:Nat)(h:ie)(hl:h.six.length=8)(hx:a.eval x=.pointer (some ⟨b,k,none⟩))(hr:w.rangeAt b k (aZ h))
  (K:wpList prog ops Q rest (a.put o.dst (.agg (cd h))) w):wpList prog ops Q (o::rest) a w :=
 Ac hg (.agg (cd h)) (iX 27 x ho b k (aZ h) _ underlying27 rfl (by rw[jQ];simp[aZ,hl]) hx hr) K
end
theorem a54(w:World)(pu pv:Value)(u v:Url):∃ W,(w.alloc (.cells (ai pu u) 30)).alloc (.cells (ai pv v) 30)=W∧Below w.heap.size w W∧CB W w.heap.size 30 (ai pu u)∧CB W (w.heap.size+1) 30 (ai pv v):=by
 have hx:=CB.new w 30 (ai pu u);have hb:=(Below.refl w.heap.size w).alloc (af _) (.cells (ai pu u) 30);obtain⟨w1,hw1⟩:=az (w.alloc (.cells (ai pu u) 30));have hz1:w1.heap.size=w.heap.size+1:=by rw[hw1];simp
 rw[<-hw1]at hx hb ⊢;have hy:=CB.new w1 30 (ai pv v);have hb2:=(Below.refl w1.heap.size w1).alloc (af _) (.cells (ai pv v) 30);rw[hz1]at hy;exact⟨_,rfl,iK hb hb2,hx.keep hb2,hy⟩

theorem D8:∀ l:List Bytes,l.length<=(bF l).length
 | []=>by simp[bF]
 |p::r=>by
  have:=D8 r;unfold bF;simp only[ae,ag,aN];omega
theorem oQ{aH:Bytes}{l:List Bytes}:(bF (cI aH l)).length<=(bF l).length:=by
 match l with
 | []=>simp[cI,bF]
 | [x] =>
  show(bF (if aH=[102,105,108,101]∧iQ x=true then [x]else [])).length<=_
  split
  ·exact af _
  simp[bF]
 |x::y::r =>
  show(bF ((x::y::r).dropLast)).length<=_;have e:=fG (l:=x::y::r) (by simp);have h:=congrArg (fun l=>(bF l).length) e
  try dsimp only at h
  rw[jR]at h;simp only[ae]at h;omega
theorem EH{aH:Bytes}{out:List Bytes}{p:Bytes}{last:Bool}:(bF (jV aH out p last)).length<=(bF out).length+(3*p.length+1):=by
 have hs:=oQ (aH:=aH) (l:=out);have hp:=iw 4 p;unfold jV
 split
 ·split
  ·rw[jR];simp only[ae,ag,aN];omega
  omega
 split
 ·split
  ·rw[jR];simp only[ae,ag,aN];omega
  omega
 split
 ·next h =>
  have h2:p.length=2:=by
   have h3:=h.2.2
   match p with
   | []=>cases h3
   | [a]=>cases h3
   | [a,b]=>rfl
   |a::b::c::r=>cases h3
  rw[jR];simp only[ae,ag,aN,aE];omega
 rw[jR];simp only[ae,ag,aN];omega
def uE:List Bytes->Nat
 | []=>0
 |p::r=>(p.length+1)+uE r
theorem zN{aH:Bytes}:∀ (ps out:List Bytes),(bF (ji aH out ps)).length<=(bF out).length+3*uE ps
 | [],out=>by simp[ji]
 | [p],out=>by
  have:=EH (aH:=aH) (out:=out) (p:=p) (last:=true);show(bF (jV aH out p true)).length<=_;unfold uE uE;omega
 |p::q::r,out=>by
  have h1:=EH (aH:=aH) (out:=out) (p:=p) (last:=false);have h2:=zN (aH:=aH) (q::r) (jV aH out p false);show(bF (ji aH (jV aH out p false) (q::r))).length<=_;have e:uE (p::q::r)=(p.length+1)+uE (q::r):=rfl;omega
theorem EL(sp:Bool):∀ s:Bytes,uE (fO sp s)=s.length+1
 | []=>rfl
 |c::t=>by
  have ih:=EL sp t;unfold fO
  split
  ·show(0+1)+uE (fO sp t)=_
   rw[ih,ag];omega
  obtain⟨p,ps,e⟩:=vh sp t;rw[e]at ih ⊢;have e1:uE (p::ps)=(p.length+1)+uE ps:=rfl;have e2:uE ((c::p)::ps)=((c::p).length+1)+uE ps:=rfl;rw[e2,ag,ag];omega
theorem jF(aH:Bytes)(path:List Bytes)(s:Bytes):(bF (dc aH path s)).length<=(bF path).length+3*s.length+3:=by
 have h:=zN (aH:=aH) (fO (eK aH) s) path;rw[EL]at h;unfold dc;omega
theorem xi(aH s:Bytes):(bF (gE aH s)).length<=3*s.length+3:=by
 unfold gE;have h1:=jF aH [] s;have h2:=jF aH [] (s.drop 1);have e:(bF ([]:List Bytes)).length=0:=rfl;rw[e]at h1 h2
 split
 ·rw[ah]at h2;omega
 omega
theorem RN(c:Prop) [Decidable c] (l:List Bytes):(bF (if c then l.take 1 else [])).length<=(bF l).length:=by
 split
 ·cases l with
  |nil=>simp[bF]
  |cons x r =>
   show(bF [x]).length<=_;simp[bF]
 simp[bF]
structure Ul (L M:Nat) (u:Url):Prop where
 aH:u.aH.length<=L
 usr:u.usr.length<=3*L
 fp:u.fp.length<=3*L
 host:(∃n sp,n.length<=L∧dh n sp=some u.host)∨u.host.name=[]
 flat:u.flat.length<=3*L+3
 path:(bF u.path).length<=M
 q:u.q.length<=3*L
 f:u.f.length<=3*L
structure Pl (L:Nat) (p:lH):Prop where
 aH:p.aH.length<=L
 rest:p.rest.length<=L
 q:p.q.length<=L
 f:p.f.length<=L
theorem ST(s:Bytes):Pl s.length (fc s):=by
 have a:=jx 35 s;have b:=jx 63 (bY 35 s).1;have c:=jx 58 (bY 63 (bY 35 s).1).1;unfold fc;dsimp only
 split
 ·exact⟨by rw[am];omega,by dsimp only;omega,by dsimp only;omega,by dsimp only;omega⟩
 exact⟨aK _,by dsimp only;omega,by dsimp only;omega,by dsimp only;omega⟩
theorem Gc(s:Bytes):(eh s).length<=s.length:=by
 have h1:(eh s).length<=(trimF s).length:=eZ _ _;have h2:(trimF s).length<=s.length:=tA s;omega
theorem Kv{s:Bytes}{L:Nat}(h:s.length<=L):Pl L (fc (eh s)):=by
 have h1:=ST (eh s);have h2:=Gc s;exact⟨by have:=h1.aH;omega,by have:=h1.rest;omega,by have:=h1.q;omega,by have:=h1.f;omega⟩
section
variable {L M:Nat} {b u:Url} {p:lH}
theorem si(hp:Pl L p){aH:Bytes}(hs:aH.length<=L):Ul L M (dj aH p):=by
 refine⟨hs,aK _,aK _,.inr rfl,aK _,aK _,?_,?_⟩
 ·have h1:=iw (if eK aH=true then 3 else 2) p.q
  have h2:=hp.q;show(dq (if eK aH=true then 3 else 2) p.q).length<=_;omega
 have h1:=iw 1 p.f;have h2:=hp.f;show(dq 1 p.f).length<=_;omega
theorem BU{u0:Url}{s:Bytes}(h0:Ul L M u0)(hs:s.length<=L)(hM:3*L+3<=M)(h:kf u0 s=some u):Ul L M u:=by
 unfold kf at h;dsimp only at h;have hc:=ox (eK u0.aH) s;cases ha:kg u0.aH (dO (eK u0.aH) s).1 with
 |none=>rw[ha]at h;cases h
 |some a =>
  rw[ha]at h;injection h with h
  obtain⟨h1,h2,n,hn,hh⟩:=Po ha;rw[<-h];refine⟨h0.aH,by dsimp only;omega,by dsimp only;omega,.inl ⟨n,_,by omega,hh⟩,h0.flat,?_,h0.q,h0.f⟩;dsimp only
  split
  ·have:=xi u0.aH (dO (eK u0.aH) s).2
   omega
  exact h0.path
theorem TF{u0:Url}{s:Bytes}(h0:Ul L M u0)(hs:s.length<=L)(hM:3*L+3<=M)(h:iF u0 s=some u):Ul L M u:=by
 unfold iF at h;dsimp only at h;have hc:=ox true s;have hp2:=xi u0.aH (dO true s).2;have hs2:=jF u0.aH [] s;have e:(bF ([]:List Bytes)).length=0:=rfl;rw[e]at hs2
 split at h
 ·injection h with h
  rw[<-h];exact⟨h0.aH,h0.usr,h0.fp,h0.host,h0.flat,by dsimp only;omega,h0.q,h0.f⟩
 split at h
 ·injection h with h
  rw[<-h];exact⟨h0.aH,h0.usr,h0.fp,h0.host,h0.flat,by dsimp only;omega,h0.q,h0.f⟩
 cases hO:dh (dO true s).1 true with
 |none=>rw[hO]at h;cases h
 |some g =>
  rw[hO]at h;injection h with h
  rw[<-h];refine⟨h0.aH,h0.usr,h0.fp,?_,h0.flat,by dsimp only;omega,h0.q,h0.f⟩;dsimp only
  split
  ·exact h0.host
  exact .inl ⟨_,_,by omega,hO⟩
theorem E8(h0:Ul L M u)(hb:Ul L M b):Ul L M (gv u b):=by
 unfold gv
 split
 ·exact⟨h0.aH,h0.usr,h0.fp,h0.host,h0.flat,hb.path,h0.q,h0.f⟩
 exact⟨h0.aH,h0.usr,h0.fp,h0.host,h0.flat,hb.path,hb.q,h0.f⟩
theorem Ul.more{M':Nat}(h:Ul L M u)(hM:M<=M'):Ul L M' u:=⟨h.aH,h.usr,h.fp,h.host,h.flat,ap h.path hM,h.q,h.f⟩
theorem pV(h0:Ul L M u)(l:List Bytes){M':Nat}(hl:(bF l).length<=M'):Ul L M' {u with path:=l}:=⟨h0.aH,h0.usr,h0.fp,h0.host,h0.flat,hl,h0.q,h0.f⟩
theorem Xx(hp:Pl L p)(hL:4<=L)(hb:Ul L M b)(h:lP b p=some u):Ul L (M+3*L+3) u:=by
 have h0:Ul L (M+3*L+3) (dj aW p):=si hp hL;have hr:=hp.rest;have hbp:=hb.path;rw[wd]at h
 have h2:Ul L (M+3*L+3) (Oo b p):=by
  unfold Oo
  split
  ·exact⟨h0.aH,h0.usr,h0.fp,hb.host,h0.flat,h0.path,h0.q,h0.f⟩
  exact⟨h0.aH,h0.usr,h0.fp,.inr rfl,h0.flat,h0.path,h0.q,h0.f⟩
 split at h
 ·exact TF (u0:={dj aW p with host:={H0 with kind:=1}}) ⟨h0.aH,h0.usr,h0.fp,.inr rfl,h0.flat,h0.path,h0.q,h0.f⟩ (by rw[ah];omega) (by omega) h
 split at h
 ·injection h with h
  rw[<-h];refine pV h2 _ ?_;have h3:=jF aW (if b.aH=aW then y6 b (p.rest.drop 1)else []) (p.rest.drop 1)
  have h4:(bF (if b.aH=aW then y6 b (p.rest.drop 1)else [])).length<=M:=by
   split
   ·exact ap (RN _ _) hbp
   simp[bF]
  rw[ah]at h3;omega
 split at h
 ·injection h with h
  rw[<-h];exact E8 h2 (hb.more (by omega))
 split at h
 ·injection h with h
  rw[<-h];refine pV h2 _ ?_;have h3:=jF aW (cI aW b.path) p.rest;have h4:=oQ (aH:=aW) (l:=b.path);omega
 injection h with h
 rw[<-h];refine pV h2 _ ?_;have h3:=jF aW [] p.rest;have e:(bF ([]:List Bytes)).length=0:=rfl;omega
theorem TG(hp:Pl L p)(h:fN p=some u):Ul L (3*L+3) u:=by
 have h0:Ul L (3*L+3) (dj p.aH p):=si hp hp.aH;have hr:=hp.rest;unfold fN at h;dsimp only at h
 split at h
 ·next r he =>
  rw[he]at hr;simp only[ag]at hr;exact BU h0 (by omega) (af _) h
 ·next r _ he =>
  rw[he]at hr;simp only[ag]at hr;injection h with h
  rw[<-h];refine pV h0 _ ?_;have h3:=jF p.aH [] r;have e:(bF ([]:List Bytes)).length=0:=rfl;show(bF (dc p.aH [] r)).length<=_;omega
 injection h with h
 rw[<-h];refine⟨h0.aH,h0.usr,h0.fp,h0.host,?_,h0.path,h0.q,h0.f⟩;have h3:=iw 0 p.rest;dsimp only
 split
 ·simp only[ae,gO,ag,aN];omega
 omega
theorem Xy(hp:Pl L p)(hb:Ul L M b)(h:lS b p=some u):Ul L M u:=by
 unfold lS at h
 split at h
 ·cases h
 injection h with h
 rw[<-h];refine⟨hb.aH,hb.usr,hb.fp,hb.host,hb.flat,hb.path,hb.q,?_⟩;have h1:=iw 1 p.f;have h2:=hp.f;show(dq 1 p.f).length<=_;omega
theorem a1N(hp:Pl L p)(hb:Ul L M b)(h:rZ b p=some u):Ul L (M+3*L+3) u:=by
 have h0:Ul L (M+3*L+3) (dj b.aH p):=si hp hb.aH;have hr:=hp.rest;have hbp:=hb.path;have hA:Ul L (M+3*L+3) (takeA (dj b.aH p) b):=⟨h0.aH,hb.usr,hb.fp,hb.host,h0.flat,h0.path,h0.q,h0.f⟩;unfold rZ at h;dsimp only at h
 split at h
 ·exact BU h0 (by rw[ah];omega) (by omega) h
 split at h
 ·exact BU h0 (by rw[ah];omega) (by omega) h
 split at h
 ·injection h with h
  rw[<-h];refine pV hA _ ?_;have h3:=jF b.aH [] (p.rest.drop 1);have e:(bF ([]:List Bytes)).length=0:=rfl;rw[ah]at h3;omega
 split at h
 ·injection h with h
  rw[<-h];exact E8 hA (hb.more (by omega))
 injection h with h
 rw[<-h];refine pV hA _ ?_;have h3:=jF b.aH (cI b.aH b.path) p.rest;have h4:=oQ (aH:=b.aH) (l:=b.path);omega
theorem KS(hp:Pl L p)(hL:4<=L)(hb:Ul L M b)(h:eU b p=some u):Ul L (M+3*L+3) u:=by
 unfold eU at h
 split at h
 ·exact Xx hp hL hb h
 split at h
 ·have:=hp.rest
  exact BU (si hp hp.aH) (by rw[ah];omega) (by omega) h
 split at h
 ·exact(TG hp h).more (by omega)
 split at h
 ·exact(Xy hp hb h).more (by omega)
 exact a1N hp hb h
end
theorem a58(L:Nat):Ul L 0 U0:=⟨aK _,aK _,aK _,.inr rfl,aK _,aK _,aK _,aK _⟩
theorem xY{s:Bytes}{u:Url}{L:Nat}(hs:s.length<=L)(hL:4<=L)(h:gM s=some u):Ul L (3*L+3) u:=by
 unfold gM at h
 split at h
 ·have:=KS (M:=0) (Kv hs) hL (a58 L) h
  rw[bC]at this;exact this
 cases h
theorem TH{b u:Url}{s:Bytes}{L M:Nat}(hs:s.length<=L)(hL:4<=L)(hb:Ul L M b)(h:lX b s=some u):Ul L (M+3*L+3) u:=KS (Kv hs) hL hb h
theorem Gi{l n:Bytes}(hl:l.length<=1000)(hd:kL (mQ l)=some n):n.length<=102400000:=by
 have h1:=pN _ l (af _);have h2:=pl (signs (mQ l));have h3:=k6 _ (mQ l) (af _);have h4:=vK hd;omega
theorem He{s:Bytes}{sp:Bool}{h:ie}(hh:dh s sp=some h)(hs:s.length<=1000):h.name.length<=102400000:=by
 have key:qh s sp h->h.name.length<=102400000:=by
  intro e;cases e with
  |six a h8 ha _=>exact aK _
  |name n e _ hd hn hb he=>exact Gi hs hd
  |four n e _ h=>exact aK _
  |empty e h=>exact aK _
  |Ej e _ h hb =>
   have:=Kt s;show(dq 0 s).length<=_;omega
 exact key (hkind hh)
theorem a59{L M:Nat}{u:Url}(h:Ul L M u)(hL:L<=1000)(hM:M<=1024000000):ke u:=by
 refine⟨by have:=h.aH;omega,by have:=h.usr;omega,by have:=h.fp;omega,?_,by have:=h.flat;omega,by have:=h.path;omega,by have:=h.q;omega,by have:=h.f;omega⟩;rcases h.host with⟨n,sp,hn,hh⟩|h
 ·exact He hh (by omega)
 rw[h];exact aK _
theorem u7{u:Url}(g:Good u):gI u:=by
 cases g.body with
 |opq h1 h2 h3 h4 h5=>exact⟨by rw[h3];exact XJ,by rw[h5.n];omega⟩
 |none h1 h2 h3 h5=>exact⟨by rw[h3];exact XJ,by rw[h5.n];omega⟩
 |file h1 hs h3 h5 hp =>
  refine⟨?_,by rw[h5.n];omega⟩;rcases h3 with h3|⟨n,_,h3,_⟩
  ·rw[h3];exact⟨by simp,by simp[H0],rfl,yM⟩
  exact oN (hkind h3)
 |asked h1 hs ha hp =>
  obtain⟨n,hh,_⟩:=ha.h;refine⟨oN (hkind hh),?_⟩;rcases ha.q with⟨_,h⟩|⟨_,h2,h3,_⟩
  ·have h:u.port=0:=h
   rw[h];omega
  have h2:0<=u.port:=h2;have h3:u.port<=65535:=h3;omega
theorem YS{L M:Nat}{u:Url}(h:Ul L M u)(hM:M<=307200000):u.path.length<=307200000∧∀ x∈u.path,List.length x<=1024000000:=by
 have h1:=h.path;have h2:=D8 u.path;refine⟨by omega,fun x hx=>?_⟩
 have key:∀ l:List Bytes,x∈l->x.length<=(bF l).length:=by
  intro l
  induction l with
  |nil=>intro h;cases h
  |cons p r ih =>
   intro h;unfold bF;simp only[ae];rcases aj.mp h with rfl|h
   ·omega
   have:=ih h;omega
 have:=key _ hx;omega

theorem lq{w:World}{base e:Nat}{v:Value}{l:List Bytes}(h:w.ownsRow base e 1 v l.length (Strs l)):w.ownsRow base e 1 v (Strs l).length (Strs l):=by
 rw[show(Strs l).length=l.length from am _];exact h
structure OV (u:Url):Prop where
 ok:gI u
 sm:ke u
 bs:u.path.length<=307200000∧∀ x∈u.path,List.length x<=1024000000
theorem OV.six{u:Url}(h:OV u):u.host.six.length=8:=h.ok.h.l
theorem OV.b{u:Url}(h:OV u):Bs u.path:=⟨h.bs.1,h.bs.2⟩
theorem Fa{s:Bytes}{u:Url}(hs:s.length<=1000)(h:gM s=some u):OV u:=by
 have hl:=xY hs (by omega) h;exact⟨u7 (jT h),a59 hl (af _) (by omega),YS hl (by omega)⟩

theorem Vt{s:Bytes}{k:Nat}(h:k<s.length):bG (s.drop k)=if jk s[k]=true then bG (s.drop (k+1))else s.drop k:=by
 rw[aq h];unfold bG;cases hb:jk s[k]with
 |true=>rw[aU hb,if_pos rfl]
 |false=>rw[bn (by rw[hb];simp),if_neg (by simp)]
theorem ko(s:Bytes)(w:World)(hL:s.length<=1000000000):bV prog 61 #[.string (bs s)] w (S (bG s)):=by
 obtain⟨b,hb⟩:=az (bs s);obtain⟨L,hl⟩:=az (s.length);have hsz:b.size=L:=by rw[hb,aM,hl]
 obtain⟨R,hR⟩:=az (bG s);have HR0:=h_ (show R=bG (s.drop 0)from hR);have SL:=h_ (show L=s.length∧b=bs s from⟨hl,hb⟩);rw[<-hb,<-hR];rw[<-hl]at hL;clear hb hl hR;go_enter func61,ntmps61
 go_wp2_with fail
 go_loopw [3] (fun iv wr=>∃ k:Nat,k<=L∧iv=.int .i64 k∧Hid (R=bG (s.drop k))∧wr=w) (fun i _=>L-(intOf i).toNat)
 case atStart=>exact⟨0,aK _,rfl,HR0,rfl⟩
 case round =>
  obtain⟨k,hk,rfl,HR,hw⟩:=hrel;subst wr;by_cases hlt:k<L
  ·have hkl:k<s.length:=by have:=SL.out.1;omega
   have hkb:k<b.size:=by omega
   have hx:=cJ SL.out.2 hkb hkl;have hst:=HR.out;rw[Vt hkl]at hst;have hbl:=fun W=>jN (b2 s[k]) W;have hbb:mA (b2 s[k])=jk s[k]:=rfl;rw[hbb]at hbl;obtain⟨z,hz⟩:=az (b2 s[k]);rw[<-hz]at hx hbl;cases hq:jk s[k]with
   |true =>
    rw[hq,if_pos rfl]at hst;rw[hq]at hbl;have HS:=h_ hst;have mW:=h_ hbl;clear hst hbl hbb hz hq
    go_wp2_with (first|(go_at_call 37;refine(mW.out _).mono ?_;rintro e w3 ⟨rfl,hw⟩;subst w3)|fail)
    go_roundw
    case rel=>exact⟨k+1,by omega,by go_num,HS,by trivial⟩
    case measure=>simp[intOf];omega
   |false =>
    rw[hq,if_neg (by simp)]at hst;rw[hq]at hbl;have hex:b.extract k L=bs R:=by rw[SL.out.2,bX,hst,aP (by rw[ah];have:=SL.out.1;omega)]
    obtain⟨rb,hrb⟩:=az (bs R);rw[<-hrb]at hex;have uK:=h_ hrb;have mW:=h_ hbl;clear hst hbl hbb hz hq hrb
    go_wp2_with (first|(go_at_call 37;refine(mW.out _).mono ?_;rintro e w3 ⟨rfl,hw⟩;subst w3)|fail)
    go_ret;exact⟨by rw[show S R=.string rb by rw[uK.out]];rfl,rfl⟩
  obtain rfl:k=L:=by omega
  have hst:=HR.out;rw[SL.out.1,dJ]at hst;have HS:=h_ (show R=[]from hst);clear hst
  go_wp2_with fail
  go_ret;exact⟨by rw[HS.out];rfl,rfl⟩

theorem ZX(x:UInt8)(r:Bytes):(Lib.cut r [x]).1=r.takeWhile (· != x):=by
 by_cases h:x∈r
 ·obtain⟨p,q,e,hp,hc⟩:=oT h
  rw[hc,e]
  have ha:∀ y∈p,(y != x)=true:=fun y hy=>by
   have:y≠x:=fun e=>hp (e▸hy)
   simpa using this
  rw[re _ ha,aX (by simp),aG]
 rw[rT h]
 have ha:∀ y∈r,(y != x)=true:=fun y hy=>by
  have:y≠x:=fun e=>h (e▸hy)
  simpa using this
 have:=re (d:=r) [] ha;rw[aG]at this;rw[this];simp
theorem BV(s:Bytes)(w:World)(hL:s.length<=1000000000)(hE:Env w):bN prog 64 #[.string (bs s)] w (S (uG s)):=by
 cases s with
 |nil =>
  go_enter func64,ntmps64;obtain⟨b,hb⟩:=az (bs []);have e1:b.toList.isEmpty=true:=by rw[hb,ay];rfl
  have e2:b.toList=[]:=by rw[hb,ay]
  rw[<-hb];have HB:=h_ hb;clear hb
  go_wp2_with fail
  go_ret;exact⟨by rw[show S (uG [])=.string b by rw[HB.out];rfl];rfl,Below.refl _ _⟩
 |cons x r =>
  obtain⟨b,hb⟩:=az (bs (x::r));have e1:b.toList.isEmpty=false:=by rw[hb,ay];rfl
  have e2:¬ b.toList=[]:=by rw[hb,ay];simp
  have hsz:b.size=r.length+1:=by rw[hb,aM];rfl
  have h0:0<b.size:=by omega
  have hx:=cJ hb h0 (by simp);rw[show b2 (x::r)[0]=b2 x from rfl]at hx;rw[<-hb];obtain⟨N,hN⟩:=az (r.length+1);rw[<-hN]at hsz;have hN1:1<=N:=by omega
  have hN0:0<N:=by omega
  have V4:(1:Int)<=(N:Int):=by omega
  by_cases hq:x=34∨x=39
  ·have hun:uG (x::r)=(Lib.cut r [x]).1:=by rw[ZX];show(if x=34∨x=39 then r.takeWhile (· != x)else x::r)=_;rw[if_pos hq]
   obtain⟨rb,hrb⟩:=az (bs r);obtain⟨xb,hxb⟩:=az (bs [x]);have ux:b.extract 1 N=rb:=by rw[hb,hrb,bX,hN];simp
   have qL:b.extract 0 1=xb:=by rw[hb,hxb,bX];simp
   have hct:=fun W (hW:Below w.heap.size w W)=>jE r [x] W (by rw[ag]at hL;omega) (hE.below hW);obtain⟨C,hC⟩:=az (Lib.cut r [x]);rw[<-hC]at hct hun;rw[<-hrb,<-hxb]at hct;have XO:=h_ hct;have HU:=h_ hun;rcases hq with rfl|rfl
   all_goals
    clear hct hun hC hrb hxb hb hN
    first|rw[show b2 34=34 from rfl]at hx|rw[show b2 39=39 from rfl]at hx
    go_enter func64,ntmps64
    go_wp2_with fail
    refine wp_region_held_drew (S:=fun W=>Below w.heap.size w W) (by kernel_rfl) (by exact bH (bz _)) (fun hHeld=>?_);refine tq 0 rfl ?_ (fun w hSw=>?_) ?_;rotate_left
    ·(try dsimp only at hSw);go_simp;first|done|with_reducible rfl
    try simp only[Act.put,cE,cF,cG]
    refine tq 1 rfl ?_ (fun w hSw=>?_) ?_;rotate_left
    ·(try dsimp only at hSw);go_simp;first|done|with_reducible rfl
    try simp only[Act.put,cE,cF,cG]
    refine tq 2 rfl ?_ (fun w hSw=>?_) ?_;rotate_left
    ·(try dsimp only at hSw);go_simp;first|done|with_reducible rfl
    try simp only[Act.put,cE,cF,cG]
    refine tq 3 rfl ?_ (fun w hSw=>?_) ?_;rotate_left
    ·(try dsimp only at hSw);go_simp;first|done|with_reducible rfl
    try simp only[Act.put,cE,cF,cG]
    refine rn 4 (by kernel_rfl) rfl (by rfl) (fun K hK=>?_)
    go_simp
    refine(XO.out _ hHeld).mono ?_;rintro e w3 ⟨rfl,hb3⟩;have hB3:=hHeld.trans (hb3.mono hHeld.size);clear hb3;refine hK.out _ _ ?_ (fun hHeld=>?_)
    ·first|exact bH (bz _)|assumption
    clear hK K
    try simp only[Act.put,cE,cF,cG]
    refine tq 5 rfl ?_ (fun w hSw=>?_) ?_;rotate_left
    ·(try dsimp only at hSw);go_simp;first|done|with_reducible rfl
    try simp only[Act.put,cE,cF,cG]
    refine tq 6 rfl ?_ (fun w hSw=>?_) ?_;rotate_left
    ·(try dsimp only at hSw);go_simp;first|done|with_reducible rfl
    try simp only[Act.put,cE,cF,cG]
    refine tq 7 rfl ?_ (fun w hSw=>?_) ?_;rotate_left
    ·(try dsimp only at hSw);go_simp;first|done|with_reducible rfl
    try simp only[Act.put,cE,cF,cG]
    refine tq 8 rfl ?_ (fun w hSw=>?_) ?_;rotate_left
    ·(try dsimp only at hSw);go_simp;first|done|with_reducible rfl
    try simp only[Act.put,cE,cF,cG]
    refine tq 9 rfl ?_ (fun w hSw=>?_) ?_;rotate_left
    ·(try dsimp only at hSw);go_simp;first|done|with_reducible rfl
    try simp only[Act.put,cE,cF,cG]
    refine tq 10 rfl ?_ (fun w hSw=>?_) ?_;rotate_left
    ·(try dsimp only at hSw);go_simp;first|done|with_reducible rfl
    try simp only[Act.put,cE,cF,cG]
    refine tq 11 rfl ?_ (fun w hSw=>?_) ?_;rotate_left
    ·(try dsimp only at hSw);go_simp;first|done|with_reducible rfl
    try simp only[Act.put,cE,cF,cG]
    refine wpAnyH_done (by kernel_rfl) ?_ _
    go_wp2_with fail
    go_ret;exact⟨by rw[HU.out];rfl,hB3⟩
  have hun:uG (x::r)=x::r:=by show(if x=34∨x=39 then r.takeWhile (· != x)else x::r)=_;rw[if_neg hq]
  have q34:(b2 x==34)=false:=by simp;exact fun e=>hq (.inl (fB e))
  have q39:(b2 x==39)=false:=by simp;exact fun e=>hq (.inr (fB e))
  obtain⟨z,hz⟩:=az (b2 x);rw[<-hz]at hx q34 q39;have a93:¬ z=34:=by simpa using q34
  have a94:¬ z=39:=by simpa using q39
  have n34:(z != 34)=true:=by simpa using a93
  have n39:(z != 39)=true:=by simpa using a94
  have HU:=h_ (show S (uG (x::r))=.string b by rw[hun,hb]);clear hun hq hz hb hN;go_enter func64,ntmps64
  go_wp2_with fail
  go_ret;exact⟨by rw[HU.out];rfl,Below.refl _ _⟩
theorem a0a(l:Bytes):Lib.hasPrefix l [61]=decide (l.head? = some 61):=by
 cases l with
 |nil=>rfl
 |cons x r =>
  show((61==x)&&true)=_;rw[jq,k9];by_cases h:x=61
  ·subst h;rfl
  rw[decide_eq_false (by simpa using h)];simp only[beq_eq_false_iff_ne];exact fun e=>h e.symm
theorem E9(s:Bytes)(w:World)(hL:s.length<=1000000000):bN prog 65 #[.string (bs s)] w (S (ly s)):=by
 obtain⟨b,hb⟩:=az (bs s);obtain⟨N,hN⟩:=az (s.length);have hsz:b.size=N:=by rw[hb,aM,hN]
 have hS:S s=.string b:=by rw[hb]
 obtain⟨U,hU⟩:=az (ly s);rw[<-hb,<-hU];by_cases h3:s.length<3
 ·have HU:=h_ (show S U=.string b by
   rw[hU,<-hS];unfold ly;rw[if_neg];intro e;have:=congrArg List.length e;rw[am,aE]at this;simp[TI]at this;omega)
  have hN3:(N:Int)<3:=by omega
  clear hU hS hb hN h3;go_enter func65,ntmps65
  go_wp2_with fail
  go_ret;exact⟨by rw[HU.out];rfl,Below.refl _ _⟩
 have hN3:3<=N:=by omega
 have b3o:¬ (N:Int)<3:=by omega
 obtain⟨tb,htb⟩:=az (bs (s.take 3));have hex:b.extract 0 3=tb:=by rw[hb,htb,bX];simp
 have hlo:=fun W=>sX (s.take 3) W (by rw[aE];unfold maxLen;omega);unfold Vd at hlo;rw[<-htb]at hlo;obtain⟨lb,hlb⟩:=az (bs ((s.take 3).map dF));rw[show S ((s.take 3).map dF)=.string lb by rw[hlb]]at hlo;have HLO:=h_ hlo;by_cases hu:(s.take 3).map dF=TI
 ·have hue:ly s=match bG (s.drop 3)with
   | []=>s
   |c::t=>if c=61 then bG t else s:=by unfold ly;rw[if_pos hu];rfl
  have q1:(lb.toList == [117,114,108])=true:=by rw[hlb,ay,hu];rfl
  have q2:lb.toList=[117,114,108]:=by rw[hlb,ay,hu];rfl
  obtain⟨db,hdb⟩:=az (bs (s.drop 3));have ky:b.extract 3 N=db:=by rw[hb,hdb,bX,hN,aP (by rw[ah];omega)]
  obtain⟨Z,hZ⟩:=az (bG (s.drop 3))
  have hZl:Z.length<=1000000000:=by
   rw[hZ];refine ap (cD _).length_le ?_;rw[ah];omega
  have hb1:=fun W=>ko (s.drop 3) W (by rw[ah];omega);rw[<-hdb,<-hZ]at hb1;obtain⟨zb,hzb⟩:=az (bs Z);rw[show S Z=.string zb by rw[hzb]]at hb1;have HB1:=h_ hb1;have hcp:=fun W=>vw Z [61] W;rw[<-hzb,a0a]at hcp;rw[<-hZ]at hue;by_cases hh:Z.head? = some 61
  ·obtain⟨t,ht⟩:∃ t,Z=61::t:=by
    cases Z with
    |nil=>cases hh
    |cons c t=>exact⟨t,by rw[k9]at hh;rw[bp hh]⟩
   rw[ht]at hue hZl;rw[decide_eq_true hh,ht,show Lib.trimPrefix (61::t) [61]=t from rfl]at hcp;obtain⟨tt,Fv⟩:=az (bs t);rw[show S t=.string tt by rw[Fv]]at hcp;have hb2:=fun W=>ko t W (by rw[ag]at hZl;omega);rw[<-Fv]at hb2;have FC:=h_ (show ∀W,bV prog 95 #[.string zb,.string ⟨#[61]⟩] W (.tuple #[.string tt,.bool true])from hcp);have HB2:=h_ hb2;have HU:=h_ (show U=bG t by rw[hU,hue];rfl);clear hU hS hb hN h3 hlo hu hue hZ hb1 hzb hcp hh ht Fv hb2 hdb hlb htb hZl;go_enter func65,ntmps65
   go_wp2_with (first
    |(go_at_call 70;refine(HLO.out _).mono ?_;rintro e w1 ⟨rfl,hb1⟩;have HW1:=h_ hb1;clear hb1)
    |(go_at_call 61;with_reducible first|refine(HB1.out _).mono ?_;rintro e w2 ⟨rfl,hw⟩;subst w2)
    |(go_at_call 95;refine(FC.out _).mono ?_;rintro e w3 ⟨rfl,hw⟩;subst w3)
    |(go_at_call 61;with_reducible first|refine(HB2.out _).mono ?_;rintro e w4 ⟨rfl,hw⟩;subst w4)
    |fail)
   go_ret;exact⟨by rw[HU.out];rfl,HW1.out⟩
  rw[decide_eq_false hh]at hcp;obtain⟨tt,Fv⟩:=az (Lib.trimPrefix Z [61]);rw[<-Fv]at hcp;have FC:=h_ (show ∀W,bV prog 95 #[.string zb,.string ⟨#[61]⟩] W (.tuple #[S tt,.bool false])from hcp)
  have HU:=h_ (show S U=.string b by
   rw[hU,<-hS,hue];cases Z with
   |nil=>rfl
   |cons c t =>
    have:c≠61:=fun e=>hh (by rw[e];rfl);show S (if c=61 then bG t else s)=S s;rw[if_neg this])
  clear hU hS hb hN h3 hlo hu hue hZ hb1 hzb hcp hh Fv hdb hlb htb hZl;go_enter func65,ntmps65
  go_wp2_with (first
   |(go_at_call 70;refine(HLO.out _).mono ?_;rintro e w1 ⟨rfl,hb1⟩;have HW1:=h_ hb1;clear hb1)
   |(go_at_call 61;with_reducible first|refine(HB1.out _).mono ?_;rintro e w2 ⟨rfl,hw⟩;subst w2)
   |(go_at_call 95;refine(FC.out _).mono ?_;rintro e w3 ⟨rfl,hw⟩;subst w3)
   |fail)
  go_ret;exact⟨by rw[HU.out];rfl,HW1.out⟩
 have q1:(lb.toList == [117,114,108])=false:=by rw[hlb,ay];exact beq_eq_false_iff_ne.mpr hu
 have q2:¬ lb.toList=[117,114,108]:=by rw[hlb,ay];exact hu
 have HU:=h_ (show S U=.string b by rw[hU,<-hS];unfold ly;rw[if_neg hu]);clear hU hS hb hN h3 hlo hu hlb htb;go_enter func65,ntmps65
 go_wp2_with (first
  |(go_at_call 70;refine(HLO.out _).mono ?_;rintro e w1 ⟨rfl,hb1⟩;have HW1:=h_ hb1;clear hb1)
  |fail)
 go_ret;exact⟨by rw[HU.out];rfl,HW1.out⟩
end Go.Proofs.YtmndlfglgcioeaaGreatDoor
