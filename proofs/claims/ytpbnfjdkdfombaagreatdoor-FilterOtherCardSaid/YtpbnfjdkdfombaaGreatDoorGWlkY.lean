/- Joined texts. -/
import Derived.Test.YtpbnfjdkdfombaaGreatDoorGWlkT
set_option maxHeartbeats 40000000
namespace Go.Proofs.YtpbnfjdkdfombaaGreatDoor
open Tryz
open Go.RowKit
set_option maxRecDepth 10000
theorem yj(s:O):(eN s).length<=s.length:=am (zi _) (sN _)
theorem zd(s:O):(fw s).rest.length<=s.length/\(fw s).q.length<=s.length/\(fw s).f.length<=s.length:=by
 have a:=fD 35 s;have b:=fD 63 (bQ 35 s).1;have c:=fD 58 (bQ 63 (bQ 35 s).1).1;unfold fw;dsimp only
 split <;>(dsimp only;omega)
theorem a47(p:kW):(aW p).all (·.oneCell')=true:=all_oneCell_toArray (cs:=(aW p).toList) Ju
theorem xf{f:Func}{k m:Nat}(hf:f.results=#[.cell k 34,.tmp m]){tmps:Array Z}{w0 w2:H}{b:Nat}{A:Z}{u:Url}{q:Bool}{Post:Ending->H->Prop}(h8:u.host.six.length=8)(hk:tmps.getD k undef=.pointer (some ⟨b,0,none⟩))(hm:tmps.getD m undef=.bool q)
  (i:OB w0 b 34 (ai A u) w2) (hP:Post (.returned (.tuple #[.agg (ai A u),.bool q])) w2) :
  bodyPost prog f Post Exit.ret {tmps:=tmps,defers:=[]} w2:=by
 have h2':tmps[k]?.getD undef=.pointer (some ⟨b,0,none⟩):=by simpa using hk
 have h3':tmps[m]?.getD undef=.bool q:=by simpa using hm
 have hl:=i.load (P:=prog) 34 _ underlying34 rfl (by rw[kJ h8];exact iJ);refine bodyPost_ret (v:=.tuple #[.agg (ai A u),.bool q]) ?_ rfl hP;simp[results,hf,asAddr,h2',h3',hl]
theorem xg(s:O)(w:H)(hs:s.length<=1048576)(hE:Env w):Calls prog 24 #[.string (E s)] w (uK w (eF s)):=by
 have hcl:=yj s;obtain⟨p,hp⟩:=V (fw (eN s));have hsl:=zd (eN s);rw[<-hp]at hsl;have hJ8:∀ u,eL U0 p=some u->u.host.six.length=8:=λu h=>ot (b:=U0) rfl h;obtain⟨c,hc⟩:=V (E (eN s));have xl:=F (show ∀W,bF prog 47 #[.string (E s)] W (.string c)from λW=>by rw[hc];exact yi s W M0);have ji:=F (show ∀W,r7 w W->bF prog 46 #[.string c] W (.agg (aW p))from λW U=>by rw[hc,hp];exact za (eN s) W M0 (hE.below U));have Be:=F<|λW (U:r7 w W)=>zq U0 aI p W rfl Sl.nil ⟨by simp[U0],by simp[U0]⟩ (Yb M0) M0 M0 (hE.below U);obtain⟨R,hR⟩:=V (eF s);rw[<-hR];unfold eF at hR;rw[<-hp]at hR;obtain⟨z,hz⟩:=V (E s);rw[<-hz]at xl ⊢;have HR:=F hR;have Yv:=F hJ8;clear hR hz hc hp hsl hcl hs hE hJ8;go_enter func24,ntmps24
 go_upto_region 1 with(first
  |(refine aM rfl 34 rfl _ _ (eD _) ?_))
 have IA:=F<|OB.fresh w 34 (ai aI U0);obtain⟨w1,hw1⟩:=V (w.alloc (.cells (ai aI U0) 34));rw[<-hw1]at IA ⊢;clear hw1
 go_upto_region 2 with(first
  |(go_at_call 47;refine(xl.o _).m ?_;rintro e w2 ⟨rfl,U⟩;have I2:=F<|IA.o.below U;clear U)
  |(go_at_call 46;refine(ji.o _ I2.o.bL).m ?_;rintro e w3 ⟨rfl,U⟩;have I3:=F<|I2.o.below U;clear U)
  |(refine aM rfl 79 rfl _ _ (a27 _) ?_)
  |(refine jG rfl 79 (.tmp 4) (.tmp 7) rfl (aW p) (aW P0) mO rfl (a47 p) rfl rfl rfl ?_;intro w4 h4 U;have X4:=F h4;have I4:=F<|I3.o.below U;clear h4 U))
 have d0:=X4.o.aE (j:=0) (v:=.bool p.gR) rfl;cases hS:p.gR with
 |false =>
  rw[hS]at d0;have dI:=F (show R=none by rw[HR.o,if_neg (by simp[hS])]);clear hS
  go_wp2_with (first
   |(refine fV rfl (.tmp 2) (.tmp 11) rfl w w.heap.size I4.o aI U0 rfl rfl rfl rfl ?_;intro w5 i5 _;have I5:=F i5;clear i5))
  rw[dI.o];exact xf (u:=U0) (q:=false) results24 rfl rfl rfl I5.o ⟨rfl,I5.o.bL⟩
 |true =>
  rw[hS]at d0;have xo:=F (show R=eL U0 p by rw[HR.o,if_pos hS]);clear hS;cases hJ:eL U0 p with
  |none =>
   have dI:=F (show R=none by rw[xo.o,hJ]);have xw:=F<|λW U=>(show bF prog 48 #[.agg (ai aI U0),.agg (aW p)] W (.tuple #[.agg (ai aI U0),.bool false])from by have h:=Be.o W U;rw[hJ]at h;exact h);clear hJ
   go_wp2_with (first
    |(refine kB rfl (.tmp 4) rfl w3.heap.size p X4.o rfl ?_)
    |(go_at_call 48;refine(xw.o _ I4.o.bL).m ?_;rintro e w5 ⟨rfl,U⟩;have I5:=F<|I4.o.below U;clear U)
    |(refine fV rfl (.tmp 2) (.tmp 15) rfl w w.heap.size I5.o aI U0 rfl rfl rfl rfl ?_;intro w6 i6 _;have I6:=F i6;clear i6))
   rw[dI.o];exact xf (u:=U0) (q:=false) results24 rfl rfl rfl I6.o ⟨rfl,I6.o.bL⟩
  |some u =>
   have dI:=F (show R=some u by rw[xo.o,hJ]);have U8:=F<|Yv.o u hJ;have xw:=F<|λW U=>(show Calls prog 48 #[.agg (ai aI U0),.agg (aW p)] W λe w'=>∃ A,e=.returned (.tuple #[.agg (ai A u),.bool true])/\w'.ownsRow W.heap.size 9 1 A u.path.length (Strs u.path)/\r7 W w' from by have h:=Be.o W U;rw[hJ]at h;exact h);clear hJ
   go_wp2_with (first
    |(refine kB rfl (.tmp 4) rfl w3.heap.size p X4.o rfl ?_)
    |(go_at_call 48;refine(xw.o _ I4.o.bL).m ?_;rintro e w5 ⟨A,rfl,o5,U⟩;have I5:=F<|I4.o.below U;have O5:=F<|bd o5 (show w.heap.size+1<=_ from I4.o.lt);clear U o5)
    |(refine fV rfl (.tmp 2) (.tmp 15) rfl w w.heap.size I5.o A u U8.o (bm O5.o) rfl rfl ?_;intro w6 i6 t6;have I6:=F i6;have O6:=F<|bd (t6.row O5.o (bV _)) (gQ _);clear i6 t6))
   rw[dI.o];exact xf (u:=u) (q:=true) results24 U8.o rfl rfl I6.o ⟨A,rfl,O6.o,I6.o.bL⟩
theorem a5H(w:H)(bv:Z)(u:Url):∃ W,(w.alloc (.cells (ai bv u) 34)).alloc (.cells (ai aI U0) 34)=W/\CB W w.heap.size 34 (ai bv u)/\OB w (w.heap.size+1) 34 (ai aI U0) W:=by
 have X:=CB.new w 34 (ai bv u);have U:=(Below.refl w.heap.size w).alloc (ag _) (.cells (ai bv u) 34);obtain⟨w1,hw1⟩:=V (w.alloc (.cells (ai bv u) 34));have hz1:w1.heap.size=w.heap.size+1:=by rw[hw1];simp
 rw[<-hw1]at X U ⊢;have hy:=CB.new w1 34 (ai aI U0);have hb2:=(Below.refl w1.heap.size w1).alloc (ag _) (.cells (ai aI U0) 34);rw[hz1]at hy;exact⟨_,rfl,X.keep hb2,OB.of hy (gQ _) (dw U hb2)⟩
theorem L4(bu:Url)(bv:Z)(s:O)(w:H)(h8:bu.host.six.length=8)(hbv:Sl w.heap.size w bv (bu.path.map S))(hbs:Bs bu.path)(hs:s.length<=1048576)(hE:Env w):Calls prog 82 #[.agg (ai bv bu),.string (E s)] w (uK w (kF bu s)):=by
 have hcl:=yj s;obtain⟨p,hp⟩:=V (fw (eN s));have hsl:=zd (eN s);rw[<-hp]at hsl;have Yv:=F<|λu (h:eL bu p=some u)=>ot h8 h;obtain⟨c,hc⟩:=V (E (eN s));have xl:=F (show ∀W,bF prog 47 #[.string (E s)] W (.string c)from λW=>by rw[hc];exact yi s W M0);have ji:=F (show ∀W,r7 w W->bF prog 46 #[.string c] W (.agg (aW p))from λW U=>by rw[hc,hp];exact za (eN s) W M0 (hE.below U));have Be:=F<|λW (U:r7 w W)=>zq bu bv p W h8 ((hbv.below U).more U.size) hbs (Yb M0) M0 M0 (hE.below U);have H8:=F h8;show Calls _ _ _ _ (uK w (eL bu (fw (eN s))));rw[<-hp];obtain⟨z,hz⟩:=V (E s);rw[<-hz]at xl ⊢;clear hz hc hp hsl hcl hs hE h8 hbv hbs;obtain⟨W2,hw2,k1,k2⟩:=a5H w bv bu;have K1:=F k1;have K2:=F k2;have HW2:=F hw2;clear k1 k2 hw2;have HUI:=F (show(prog.info? 34).map (·.size)=some (ai bv bu).size by rw[kJ H8.o];exact iJ);cases hJ:eL bu p with
 |none =>
  have xw:=F<|λW U=>(show bF prog 48 #[.agg (ai bv bu),.agg (aW p)] W (.tuple #[.agg (ai aI U0),.bool false])from by have h:=Be.o W U;rw[hJ]at h;exact h);clear hJ;go_enter func82,ntmps82
  go_upto_region 1 with(first
   |(refine aM rfl 34 rfl _ _ (eD _) ?_))
  rw[HW2.o];have C1:=F<|K1.o.keep (bG (bg _));have I1:=F<|K2.o.below (bG (bg _));refine wp_region_held_drew (S:=λW=>CB W w.heap.size 34 (ai bv bu)) Rz (by with_reducible first|exact C5.o|exact C4.o|exact C3.o|exact C2.o|exact C1.o) (λhHeld=>?_);refine tq 0 rfl ?_ (λwS hSw=>?_) ?_;rotate_left
  ·(try dsimp only at hSw)
   refine je 34 (.tmp 2) ?_ w.heap.size (ai bv bu) _ underlying34 rfl HUI.o ?_ ?_
   ·rfl
   ·rfl
   exact hSw
  try simp only[Act.put,fH,fI,fJ]
  refine ek 1 ?_;refine rn 2 Rz rfl r5 (λK hK=>?_)
  go_simp
  refine(xl.o _).m ?_;rintro e w2 ⟨rfl,U⟩;have C2:=F<|C1.o.keep U;have I2:=F<|I1.o.below U;clear U;refine hK.out _ _ ?_ (λhHeld=>?_)
  ·with_reducible first|exact C5.o|exact C4.o|exact C3.o|exact C2.o|exact C1.o
  clear hK K;refine rn 3 Rz rfl r5 (λK hK=>?_)
  go_simp
  refine(ji.o _ I2.o.bL).m ?_;rintro e w3 ⟨rfl,U⟩;have C3:=F<|C2.o.keep U;have I3:=F<|I2.o.below U;clear U;refine hK.out _ _ ?_ (λhHeld=>?_)
  ·with_reducible first|exact C5.o|exact C4.o|exact C3.o|exact C2.o|exact C1.o
  clear hK K;refine rn 4 Rz rfl r5 (λK hK=>?_)
  go_simp
  refine(xw.o _ I3.o.bL).m ?_;rintro e w4 ⟨rfl,U⟩;have C4:=F<|C3.o.keep U;have I4:=F<|I3.o.below U;clear U;refine hK.out _ _ ?_ (λhHeld=>?_)
  ·with_reducible first|exact C5.o|exact C4.o|exact C3.o|exact C2.o|exact C1.o
  clear hK K;refine ek 5 ?_;refine ek 6 ?_;refine rn 7 Rz rfl r5 (λK hK=>?_);refine j5 34 (.tmp 4) (.tmp 11) rfl w (w.heap.size+1) 34 (ai aI U0) I4.o 0 (cu aI U0) rfl rfl (ag _) iJ (xe rfl) (ai aI U0) (rz rfl rfl) ?_;intro w5 i5 t5;have I5:=F i5;have C5:=F<|t5.cb C4.o (cO (bV _));clear i5 t5;refine hK.out _ _ ?_ (λhHeld=>?_)
  ·with_reducible first|exact C5.o|exact C4.o|exact C3.o|exact C2.o|exact C1.o
  clear hK K
  try simp only[Act.put]
  refine ek 8 ?_;refine wpAnyH_done Rz ?_ _;go_wp2_with fail;exact xf (u:=U0) (q:=false) results82 rfl rfl rfl I5.o ⟨rfl,I5.o.bL⟩
 |some u =>
  have U8:=F<|Yv.o u hJ;have xw:=F<|λW U=>(show Calls prog 48 #[.agg (ai bv bu),.agg (aW p)] W λe w'=>∃ A,e=.returned (.tuple #[.agg (ai A u),.bool true])/\w'.ownsRow W.heap.size 9 1 A u.path.length (Strs u.path)/\r7 W w' from by have h:=Be.o W U;rw[hJ]at h;exact h);clear hJ;go_enter func82,ntmps82
  go_upto_region 1 with(first
   |(refine aM rfl 34 rfl _ _ (eD _) ?_))
  rw[HW2.o];have C1:=F<|K1.o.keep (bG (bg _));have I1:=F<|K2.o.below (bG (bg _));refine wp_region_held_drew (S:=λW=>CB W w.heap.size 34 (ai bv bu)) Rz (by with_reducible first|exact C5.o|exact C4.o|exact C3.o|exact C2.o|exact C1.o) (λhHeld=>?_);refine tq 0 rfl ?_ (λwS hSw=>?_) ?_;rotate_left
  ·(try dsimp only at hSw)
   refine je 34 (.tmp 2) ?_ w.heap.size (ai bv bu) _ underlying34 rfl HUI.o ?_ ?_
   ·rfl
   ·rfl
   exact hSw
  try simp only[Act.put,fH,fI,fJ]
  refine ek 1 ?_;refine rn 2 Rz rfl r5 (λK hK=>?_)
  go_simp
  refine(xl.o _).m ?_;rintro e w2 ⟨rfl,U⟩;have C2:=F<|C1.o.keep U;have I2:=F<|I1.o.below U;clear U;refine hK.out _ _ ?_ (λhHeld=>?_)
  ·with_reducible first|exact C5.o|exact C4.o|exact C3.o|exact C2.o|exact C1.o
  clear hK K;refine rn 3 Rz rfl r5 (λK hK=>?_)
  go_simp
  refine(ji.o _ I2.o.bL).m ?_;rintro e w3 ⟨rfl,U⟩;have C3:=F<|C2.o.keep U;have I3:=F<|I2.o.below U;clear U;refine hK.out _ _ ?_ (λhHeld=>?_)
  ·with_reducible first|exact C5.o|exact C4.o|exact C3.o|exact C2.o|exact C1.o
  clear hK K;refine rn 4 Rz rfl r5 (λK hK=>?_)
  go_simp
  refine(xw.o _ I3.o.bL).m ?_;rintro e w4 ⟨A,rfl,o4,U⟩;have C4:=F<|C3.o.keep U;have I4:=F<|I3.o.below U;have O4:=F<|bd o4 (show w.heap.size+2<=_ from I3.o.lt);clear o4;clear U;refine hK.out _ _ ?_ (λhHeld=>?_)
  ·with_reducible first|exact C5.o|exact C4.o|exact C3.o|exact C2.o|exact C1.o
  clear hK K;refine ek 5 ?_;refine ek 6 ?_;refine rn 7 Rz rfl r5 (λK hK=>?_);refine j5 34 (.tmp 4) (.tmp 11) rfl w (w.heap.size+1) 34 (ai aI U0) I4.o 0 (cu A u) rfl rfl (by rw[oF U8.o];exact bW rfl) (by rw[oF U8.o];exact iJ) (xe (bm O4.o)) (ai A u) (rz rfl U8.o) ?_;intro w5 i5 t5;have I5:=F i5;have O5:=F<|bd (t5.row O4.o (bV _)) (Nat.le_add_right _ 2);have C5:=F<|t5.cb C4.o (cO (bV _));clear i5 t5;refine hK.out _ _ ?_ (λhHeld=>?_)
  ·with_reducible first|exact C5.o|exact C4.o|exact C3.o|exact C2.o|exact C1.o
  clear hK K
  try simp only[Act.put]
  refine ek 8 ?_;refine wpAnyH_done Rz ?_ _;go_wp2_with fail;exact xf (u:=u) (q:=true) results82 U8.o rfl rfl I5.o ⟨A,rfl,O5.o,I5.o.bL⟩

theorem Wj(a b c d e g i j a' b' c' d' e' g' i' j':Int)(D:Nat)(w:H):(Op.equalIn (D+2) 30 (.agg #[.int .u16 a,.int .u16 b,.int .u16 c,.int .u16 d,.int .u16 e,.int .u16 g,.int .u16 i,.int .u16 j]) (.agg #[.int .u16 a',.int .u16 b',.int .u16 c',.int .u16 d',.int .u16 e',.int .u16 g',.int .u16 i',.int .u16 j'])).run prog w=.ok (decide ([a,b,c,d,e,g,i,j]=[a',b',c',d',e',g',i',j'])) w:=by
 have hu:=underlying29;obtain⟨i8,tA,hz⟩:∃ i,prog.info? 29=some i/\i.size=1:=⟨_,rfl,Rz⟩;have hc:prog.cellsOf 29=1:=Rz;rw[run_equalIn_array w (D+1) _ _ underlying30 tA,hc,show List.range 8=[0,1,2,3,4,5,6,7]from rfl];simp only[Op.eqItems];clear hc hz tA
 go_simp
 repeat' split
 all_goals simp_all
theorem Vj(h h':gF)(hl:h.six.length=8)(hl':h'.six.length=8)(w:H)(q:Bool)(hq:q=true ↔ h=h'):(binOp .eql 32 (.agg (aT h)) (.agg (aT h'))).run prog w=.ok (.bool q) w:=by
 obtain⟨k,n,f,six⟩:=h;obtain⟨k',n',f',six'⟩:=h';simp only at hl hl';obtain⟨a,b,c,d,e,g,i,j,rfl⟩:=eight hl;obtain⟨a',b',c',d',e',g',i',j',rfl⟩:=eight hl';have hS:prog.underlying 32=some (.struct (prog.fieldsOf 32)):=Rz;have hp:prog.stoodInHeld 32=false:=Rz;have hc:aT ⟨k,n,f,[a,b,c,d,e,g,i,j]⟩=#[.int .i64 k,.string (E n),.int .u32 f,.int .u16 a,.int .u16 b,.int .u16 c,.int .u16 d,.int .u16 e,.int .u16 g,.int .u16 i,.int .u16 j]:=rfl;have hc':aT ⟨k',n',f',[a',b',c',d',e',g',i',j']⟩=#[.int .i64 k',.string (E n'),.int .u32 f',.int .u16 a',.int .u16 b',.int .u16 c',.int .u16 d',.int .u16 e',.int .u16 g',.int .u16 i',.int .u16 j']:=rfl;have h6:=λW=>Wj a b c d e g i j a' b' c' d' e' g' i' j' 9997 W;have hn:=rI n n';obtain⟨N,hN⟩:=V (E n);obtain⟨M,hM⟩:=V (E n');rw[<-hN,<-hM]at hn;rw[hc,hc',run_eql_struct,show(10000:Nat)=9999+1 from rfl,run_equalIn_agg w 9999 32 _ _ hS hp];rw[<-hN,<-hM];simp only[Program.fieldsOf,underlying32];obtain⟨X',hX⟩:=V (decide ([a,b,c,d,e,g,i,j]=[a',b',c',d',e',g',i',j']));rw[<-hX]at h6;clear hc hc' hN hM
 have hq2:q=(decide (k=k')&&decide (n=n')&&decide (f=f')&&X'):=by
  rw[bX,hq,hX];simp[and_assoc]
 clear hX hq;subst hq2
 go_simp
 repeat' split
 all_goals simp_all
section
variable {ops:Array Oper} {rest:List Oper} {o:Oper} {a:Act} {w:H} {Q:Exit->Act->H->Prop}
theorem a8I(hg:Region.wanted o (yielded ops a.tmps)=true)(x y:Operand)(ho:o.op=.binOp .eql 32 x y 32)(h h':gF)(hl:h.six.length=8)(hl':h'.six.length=8)(q:Bool)(hq:q=true ↔ h=h')(X:a.eval x=.agg (aT h))(hy:a.eval y=.agg (aT h'))
  (k:wpList prog ops Q rest (a.put o.dst (.bool q)) w):wpList prog ops Q (o::rest) a w:=by
 refine nj hg (.bool q) ?_ k;have e:=Vj h h' hl hl' w q hq;have g:=run_eqGuard_agg (P:=prog) w .eql 32 x y (aT h) (aT h') Rz;unfold execOp;simp only[ho,X,hy,Sem.run_bind,Sem.run_pure,Result.andThen_ok,e,g]
theorem QP(hg:Region.wanted o (yielded ops a.tmps)=true)(x:Operand)(ho:o.op=.load 32 x)(b k:Nat)(h:gF)(hl:h.six.length=8)(X:a.eval x=.pointer (some ⟨b,k,none⟩))(hr:w.rangeAt b k (aS h))
  (K:wpList prog ops Q rest (a.put o.dst (.agg (aT h))) w):wpList prog ops Q (o::rest) a w :=
 nj hg (.agg (aT h)) (gU 32 x ho b k (aS h) _ underlying32 rfl (by rw[jb];simp[aS,hl]) X hr) K
end
theorem a5J(w:H)(pu A:Z)(u v:Url):∃ W,(w.alloc (.cells (ai pu u) 34)).alloc (.cells (ai A v) 34)=W/\r7 w W/\CB W w.heap.size 34 (ai pu u)/\CB W (w.heap.size+1) 34 (ai A v):=by
 have X:=CB.new w 34 (ai pu u);have U:=(Below.refl w.heap.size w).alloc (ag _) (.cells (ai pu u) 34);obtain⟨w1,hw1⟩:=V (w.alloc (.cells (ai pu u) 34));have hz1:w1.heap.size=w.heap.size+1:=by rw[hw1];simp
 rw[<-hw1]at X U ⊢;have hy:=CB.new w1 34 (ai A v);have hb2:=(Below.refl w1.heap.size w1).alloc (ag _) (.cells (ai A v) 34);rw[hz1]at hy;exact⟨_,rfl,dw U hb2,X.keep hb2,hy⟩
theorem DC{a:Act}{w W2:H}{u v:Url}{q:Bool}(h4:a.tmps.getD 4 undef=.bool q)(hd:a.defers=[])(U:r7 w W2)(hq:q=true ↔ u=v) :
  bodyPost prog f19 (λe w'=>∃ q,e=.returned (.bool q)/\(q=true ↔ u=v)/\r7 w w') Exit.ret a W2 :=
 bodyPost_ret (v:=.bool q) (by rw[<-h4];exact results_tmp (fn:=f19) (t:=4) r5 _ _ _) hd ⟨q,rfl,hq,U⟩
theorem RT(u v:Url)(pu A:Z)(w:H){B C:Nat}(hu8:u.host.six.length=8)(hv8:v.host.six.length=8)(h:Sl B w pu (u.path.map S))(k:Sl C w A (v.path.map S))(hB:B<=w.heap.size)(hC:C<=w.heap.size)(hl:u.path.length<=1024000000)(hm:v.path.length<=1024000000) :
  Calls prog 19 #[.agg (ai pu u),.agg (ai A v)] w λe w'=>∃ q,e=.returned (.bool q)/\(q=true ↔ u=v)/\r7 w w':=by
 obtain⟨W,hW,U,k1,k2⟩:=a5J w pu A u v;have HW:=F hW;have HB:=F U;have hh:=h.below (U.m hB);have kk:=k.below (U.m hC);have HEQ:=F<|KP u.path v.path pu A W hh kk hl hm;have U8:=F hu8;have V8:=F hv8;have ET:=ry pu u hu8;have at2:=ry A v hv8;have R1:=F (show W.rangeAt w.heap.size 3 (aS u.host)from λj x hj=>k1.aE (ET.host j x hj));have R2:=F (show W.rangeAt (w.heap.size+1) 3 (aS v.host)from λj x hj=>k2.aE (at2.host j x hj));have XB:=rI u.aJ v.aJ;obtain⟨a5R,F7⟩:=V (E u.aJ);obtain⟨a5U,Gc⟩:=V (E v.aJ);rw[<-F7,<-Gc]at XB;obtain⟨Xp,Pd⟩:=V (decide (u.aJ=v.aJ));rw[<-Pd]at XB;have b1H:W.cell? ⟨w.heap.size,0,none⟩=some (.string a5R):=by rw[F7];exact k1.aE ET.aJ
 have b1M:W.cell? ⟨w.heap.size+1,0,none⟩=some (.string a5U):=by rw[Gc];exact k2.aE at2.aJ
 clear F7 Gc;have WL:=F (show Xp=true ↔ u.aJ=v.aJ by rw[Pd,decide_eq_true_eq]);clear Pd;have XC:=rI u.usr v.usr;obtain⟨a5S,F8⟩:=V (E u.usr);obtain⟨a5V,Gd⟩:=V (E v.usr);rw[<-F8,<-Gd]at XC;obtain⟨Xq,Pe⟩:=V (decide (u.usr=v.usr));rw[<-Pe]at XC;have b1I:W.cell? ⟨w.heap.size,1,none⟩=some (.string a5S):=by rw[F8];exact k1.aE ET.usr
 have b1N:W.cell? ⟨w.heap.size+1,1,none⟩=some (.string a5V):=by rw[Gd];exact k2.aE at2.usr
 clear F8 Gd;have WM:=F (show Xq=true ↔ u.usr=v.usr by rw[Pe,decide_eq_true_eq]);clear Pe;have XA:=rI u.er v.er;obtain⟨a5Q,F6⟩:=V (E u.er);obtain⟨a5T,Gb⟩:=V (E v.er);rw[<-F6,<-Gb]at XA;obtain⟨Xo,Pc⟩:=V (decide (u.er=v.er));rw[<-Pc]at XA;have b1G:W.cell? ⟨w.heap.size,2,none⟩=some (.string a5Q):=by rw[F6];exact k1.aE ET.er
 have b1L:W.cell? ⟨w.heap.size+1,2,none⟩=some (.string a5T):=by rw[Gb];exact k2.aE at2.er
 clear F6 Gb;have WK:=F (show Xo=true ↔ u.er=v.er by rw[Pc,decide_eq_true_eq]);clear Pc
 obtain⟨EW,OU⟩:∃ b:Bool,(b=true ↔ u.host=v.host):=by
  by_cases h:u.host=v.host
  ·exact⟨true,λ_=>h,λ_=>rfl⟩
  exact⟨false,λh=>(by cases h),λI=>absurd I h⟩
 have No:=F OU;clear OU;obtain⟨zw,pW⟩:=V (u.bz);obtain⟨zx,pX⟩:=V (v.bz);obtain⟨rT,sd⟩:=V (decide (u.bz=v.bz));have a1H:(zw==zx)=rT:=by rw[pW,pX,sd];first|exact iM _ _|rfl
 have a1F:W.cell? ⟨w.heap.size,14,none⟩=some (.bool zw):=by rw[pW];exact k1.aE ET.bz
 have a1G:W.cell? ⟨w.heap.size+1,14,none⟩=some (.bool zx):=by rw[pX];exact k2.aE at2.bz
 clear pW pX;have xK:=F (show rT=true ↔ u.bz=v.bz by rw[sd,decide_eq_true_eq]);clear sd;obtain⟨SN,Aj⟩:=V (u.port);obtain⟨SR,Ao⟩:=V (v.port);obtain⟨EY,FH⟩:=V (decide (u.port=v.port));have a8R:(SN==SR)=EY:=by rw[Aj,Ao,FH];first|exact iM _ _|rfl
 have a8H:W.cell? ⟨w.heap.size,15,none⟩=some (.int .i64 SN):=by rw[Aj];exact k1.aE ET.port
 have a8N:W.cell? ⟨w.heap.size+1,15,none⟩=some (.int .i64 SR):=by rw[Ao];exact k2.aE at2.port
 clear Aj Ao;have Nq:=F (show EY=true ↔ u.port=v.port by rw[FH,decide_eq_true_eq]);clear FH;obtain⟨Yf,F5⟩:=V (u.opq);obtain⟨Yg,Ga⟩:=V (v.opq);obtain⟨NV,Pb⟩:=V (decide (u.opq=v.opq));have b1P:(Yf==Yg)=NV:=by rw[F5,Ga,Pb];first|exact iM _ _|rfl
 have b1F:W.cell? ⟨w.heap.size,16,none⟩=some (.bool Yf):=by rw[F5];exact k1.aE ET.opq
 have b1K:W.cell? ⟨w.heap.size+1,16,none⟩=some (.bool Yg):=by rw[Ga];exact k2.aE at2.opq
 clear F5 Ga;have WJ:=F (show NV=true ↔ u.opq=v.opq by rw[Pb,decide_eq_true_eq]);clear Pb;have OT:=rI u.flat v.flat;obtain⟨a1c,Ag⟩:=V (E u.flat);obtain⟨a1d,Al⟩:=V (E v.flat);rw[<-Ag,<-Al]at OT;obtain⟨NU,FD⟩:=V (decide (u.flat=v.flat));rw[<-FD]at OT;have a8D:W.cell? ⟨w.heap.size,17,none⟩=some (.string a1c):=by rw[Ag];exact k1.aE ET.flat
 have a8J:W.cell? ⟨w.heap.size+1,17,none⟩=some (.string a1d):=by rw[Al];exact k2.aE at2.flat
 clear Ag Al;have Nl:=F (show NU=true ↔ u.flat=v.flat by rw[FD,decide_eq_true_eq]);clear FD;obtain⟨EX,FG⟩:=V (decide (u.path=v.path));have a8G:W.cell? ⟨w.heap.size,18,none⟩=some (pu):=by exact k1.aE ET.path
 have a8M:W.cell? ⟨w.heap.size+1,18,none⟩=some (A):=by exact k2.aE at2.path
 have Np:=F (show EX=true ↔ u.path=v.path by rw[FG,decide_eq_true_eq]);have HEP:=F (show bF prog 41 #[pu,A] W (.bool EX)from by have hh:=HEQ.o;rw[<-FG]at hh;exact hh);clear FG;obtain⟨SM,Ai⟩:=V (u.bZ);obtain⟨SQ,An⟩:=V (v.bZ);obtain⟨EV,FF⟩:=V (decide (u.bZ=v.bZ));have a8Q:(SM==SQ)=EV:=by rw[Ai,An,FF];first|exact iM _ _|rfl
 have YX:=F<|λw2 (hb2:r7 W w2)=>(show w2.cell? ⟨w.heap.size,19,none⟩=some (.bool SM)/\w2.cell? ⟨w.heap.size+1,19,none⟩=some (.bool SQ)from⟨by rw[Ai];exact(k1.keep hb2).aE ET.bZ,by rw[An];exact(k2.keep hb2).aE at2.bZ⟩);clear Ai An;have Nn:=F (show EV=true ↔ u.bZ=v.bZ by rw[FF,decide_eq_true_eq]);clear FF;have e_q:=rI u.q v.q;obtain⟨x_q,a0b⟩:=V (E u.q);obtain⟨y_q,a0f⟩:=V (E v.q);rw[<-a0b,<-a0f]at e_q;obtain⟨b_q,f_q⟩:=V (decide (u.q=v.q));rw[<-f_q]at e_q;have L_q:=F<|λw2 (hb2:r7 W w2)=>(show w2.cell? ⟨w.heap.size,20,none⟩=some (.string x_q)/\w2.cell? ⟨w.heap.size+1,20,none⟩=some (.string y_q)from⟨by rw[a0b];exact(k1.keep hb2).aE ET.q,by rw[a0f];exact(k2.keep hb2).aE at2.q⟩);clear a0b a0f;have E_q:=F (show b_q=true ↔ u.q=v.q by rw[f_q,decide_eq_true_eq]);clear f_q;obtain⟨SK,Ah⟩:=V (u.cg);obtain⟨SO,Am⟩:=V (v.cg);obtain⟨EU,FE⟩:=V (decide (u.cg=v.cg));have a8P:(SK==SO)=EU:=by rw[Ah,Am,FE];first|exact iM _ _|rfl
 have YW:=F<|λw2 (hb2:r7 W w2)=>(show w2.cell? ⟨w.heap.size,21,none⟩=some (.bool SK)/\w2.cell? ⟨w.heap.size+1,21,none⟩=some (.bool SO)from⟨by rw[Ah];exact(k1.keep hb2).aE ET.cg,by rw[Am];exact(k2.keep hb2).aE at2.cg⟩);clear Ah Am;have Nm:=F (show EU=true ↔ u.cg=v.cg by rw[FE,decide_eq_true_eq]);clear FE;have e_f:=rI u.f v.f;obtain⟨x_f,a0a⟩:=V (E u.f);obtain⟨y_f,a0e⟩:=V (E v.f);rw[<-a0a,<-a0e]at e_f;obtain⟨b_f,f_f⟩:=V (decide (u.f=v.f));rw[<-f_f]at e_f;have L_f:=F<|λw2 (hb2:r7 W w2)=>(show w2.cell? ⟨w.heap.size,22,none⟩=some (.string x_f)/\w2.cell? ⟨w.heap.size+1,22,none⟩=some (.string y_f)from⟨by rw[a0a];exact(k1.keep hb2).aE ET.f,by rw[a0e];exact(k2.keep hb2).aE at2.f⟩);clear a0a a0e;have E_f:=F (show b_f=true ↔ u.f=v.f by rw[f_f,decide_eq_true_eq]);clear f_f;clear ET at2 k1 k2 hh kk U hW h k hB hC hl hm hu8 hv8
 have JV:=F (show u=v ↔ (Xp&&Xq&&Xo&&EW&&rT&&EY&&NV&&NU&&EX&&EV&&b_q&&EU&&b_f)=true from by
  simp only[ct,WL.o,WM.o,WK.o,No.o,xK.o,Nq.o,WJ.o,Nl.o,Np.o,Nn.o,E_q.o,Nm.o,E_f.o];constructor
  ·intro h;rw[h];simp
  rintro⟨⟨⟨⟨⟨⟨⟨⟨⟨⟨⟨⟨Y,I⟩,h3⟩,h4⟩,h5⟩,h6⟩,h7⟩,h8⟩,h9⟩,h10⟩,h11⟩,h12⟩,h13⟩;exact a06 Y I h3 h4 h5 h6 h7 h8 h9 h10 h11 h12 h13)
 clear HEQ WL WM WK xK Nq WJ Nl Np Nn E_q Nm E_f;go_enter func19,ntmps19
 go_upto_region 1 with fail
 rw[HW.o];refine wp_region_lit ?_;simp only[List.append_eq,dE,dg]
 go_wp2_with (first
  |(refine QP rfl (.tmp 25) rfl w.heap.size 3 u.host U8.o rfl R1.o ?_)
  |(refine QP rfl (.tmp 27) rfl (w.heap.size+1) 3 v.host V8.o rfl R2.o ?_)
  |(refine a8I rfl (.tmp 26) (.tmp 28) rfl u.host v.host U8.o V8.o EW No.o rfl rfl ?_)
  |(go_at_call 41;refine HEP.o.m ?_;rintro e w2 ⟨rfl,hb2⟩;have B2:=F<|dw HB.o hb2;obtain⟨a8F,a8L⟩:=YX.o _ hb2;obtain⟨c_q,d_q⟩:=L_q.o _ hb2;obtain⟨a8E,a8K⟩:=YW.o _ hb2;obtain⟨c_f,d_f⟩:=L_f.o _ hb2;clear hb2))
 all_goals first
  |(refine DC (q:=b_f) r5 r5 (by first|exact B2.o|exact HB.o) ?_;rw[JV.o];clear JV;simp_all)
  |(refine DC (q:=false) r5 r5 (by first|exact B2.o|exact HB.o) ?_;rw[JV.o];clear JV;simp_all)

theorem Db:∀ l:List O,l.length<=(cH l).length
 | []=>by simp[cH]
 |p::r=>by
  have:=Db r;unfold cH;simp only[ae,ah,aO];omega
theorem om{aJ:O}{l:List O}:(cH (cE aJ l)).length<=(cH l).length:=by
 match l with
 | []=>simp[cE,cH]
 | [x] =>
  show(cH (if aJ=[102,105,108,101]/\jN x=true then [x]else [])).length<=_
  split
  ·exact ag _
  simp[cH]
 |x::y::r =>
  show(cH ((x::y::r).dropLast)).length<=_;have e:=ip (l:=x::y::r) Oc;have h:=congrArg (λl=>(cH l).length) e
  try dsimp only at h
  rw[jc]at h;simp only[ae]at h;omega
theorem DE{aJ:O}{out:List O}{p:O}{last:Bool}:(cH (kT aJ out p last)).length<=(cH out).length+(3*p.length+1):=by
 have hs:=om (aJ:=aJ) (l:=out);have hp:=gv 4 p;unfold kT
 split
 ·split
  ·rw[jc];simp only[ae,ah,aO];omega
  omega
 split
 ·split
  ·rw[jc];simp only[ae,ah,aO];omega
  omega
 split
 ·next h =>
  have I:p.length=2:=by
   have h3:=h.2.2
   match p with
   | []=>cases h3
   | [a]=>cases h3
   | [a,b]=>rfl
   |a::b::c::r=>cases h3
  rw[jc];simp only[ae,ah,aO,aD];omega
 rw[jc];simp only[ae,ah,aO];omega
def ud:List O->Nat
 | []=>0
 |p::r=>(p.length+1)+ud r
theorem y4{aJ:O}:∀ (ps out:List O),(cH (kH aJ out ps)).length<=(cH out).length+3*ud ps
 | [],out=>by simp[kH]
 | [p],out=>by
  have:=DE (aJ:=aJ) (out:=out) (p:=p) (last:=true);show(cH (kT aJ out p true)).length<=_;unfold ud ud;omega
 |p::q::r,out=>by
  have Y:=DE (aJ:=aJ) (out:=out) (p:=p) (last:=false);have I:=y4 (aJ:=aJ) (q::r) (kT aJ out p false);show(cH (kH aJ (kT aJ out p false) (q::r))).length<=_;have e:ud (p::q::r)=(p.length+1)+ud (q::r):=rfl;omega
theorem DH(sp:Bool):∀ s:O,ud (gE sp s)=s.length+1
 | []=>rfl
 |c::t=>by
  have ih:=DH sp t;unfold gE
  split
  ·show(0+1)+ud (gE sp t)=_
   rw[ih,ah];omega
  obtain⟨p,ps,e⟩:=uD sp t;rw[e]at ih ⊢;have e1:ud (p::ps)=(p.length+1)+ud ps:=rfl;have e2:ud ((c::p)::ps)=((c::p).length+1)+ud ps:=rfl;rw[e2,ah,ah];omega
theorem iF(aJ:O)(path:List O)(s:O):(cH (da aJ path s)).length<=(cH path).length+3*s.length+3:=by
 have h:=y4 (aJ:=aJ) (gE (eU aJ) s) path;rw[DH]at h;unfold da;omega
theorem we(aJ s:O):(cH (gW aJ s)).length<=3*s.length+3:=by
 unfold gW;have Y:=iF aJ [] s;have I:=iF aJ [] (s.drop 1);have e:(cH ([]:List O)).length=0:=rfl;rw[e]at Y I
 split
 ·rw[aj]at I;omega
 omega
theorem QC(c:Prop) [Decidable c] (l:List O):(cH (if c then l.take 1 else [])).length<=(cH l).length:=by
 split
 ·cases l with
  |nil=>simp[cH]
  |cons x r =>
   show(cH [x]).length<=_;simp[cH]
 simp[cH]
structure Ul (L M:Nat) (u:Url):Prop where
 aJ:u.aJ.length<=L
 usr:u.usr.length<=3*L
 er:u.er.length<=3*L
 host:(∃n sp,n.length<=L/\fm n sp=some u.host)\/u.host.name=[]
 flat:u.flat.length<=3*L+3
 path:(cH u.path).length<=M
 q:u.q.length<=3*L
 f:u.f.length<=3*L
structure Pl (L:Nat) (p:kW):Prop where
 aJ:p.aJ.length<=L
 rest:p.rest.length<=L
 q:p.q.length<=L
 f:p.f.length<=L
theorem Rp(s:O):Pl s.length (fw s):=by
 have a:=fD 35 s;have b:=fD 63 (bQ 35 s).1;have c:=fD 58 (bQ 63 (bQ 35 s).1).1;unfold fw;dsimp only
 split
 ·exact⟨by rw[ay];omega,by dsimp only;omega,by dsimp only;omega,by dsimp only;omega⟩
 exact⟨aL _,by dsimp only;omega,by dsimp only;omega,by dsimp only;omega⟩
theorem Fi(s:O):(eN s).length<=s.length:=by
 have Y:(eN s).length<=(trimF s).length:=dO _ _;have I:(trimF s).length<=s.length:=sN s;omega
theorem Jx{s:O}{L:Nat}(h:s.length<=L):Pl L (fw (eN s)):=by
 have Y:=Rp (eN s);have I:=Fi s;exact⟨by have:=Y.aJ;omega,by have:=Y.rest;omega,by have:=Y.q;omega,by have:=Y.f;omega⟩
section
variable {L M:Nat} {b u:Url} {p:kW}
theorem rA(hp:Pl L p){aJ:O}(hs:aJ.length<=L):Ul L M (dp aJ p):=by
 refine⟨hs,aL _,aL _,.inr rfl,aL _,aL _,?_,?_⟩
 ·have Y:=gv (if eU aJ=true then 3 else 2) p.q
  have I:=hp.q;show(dD (if eU aJ=true then 3 else 2) p.q).length<=_;omega
 have Y:=gv 1 p.f;have I:=hp.f;show(dD 1 p.f).length<=_;omega
theorem Ba{u0:Url}{s:O}(h0:Ul L M u0)(hs:s.length<=L)(hM:3*L+3<=M)(h:jS u0 s=some u):Ul L M u:=by
 unfold jS at h;dsimp only at h;have hc:=nK (eU u0.aJ) s;cases ha:kr u0.aJ (dU (eU u0.aJ) s).1 with
 |none=>rw[ha]at h;cases h
 |some a =>
  rw[ha]at h;injection h with h
  obtain⟨Y,I,n,hn,hh⟩:=NT ha;rw[<-h];refine⟨h0.aJ,by dsimp only;omega,by dsimp only;omega,.inl ⟨n,_,M0,hh⟩,h0.flat,?_,h0.q,h0.f⟩;dsimp only
  split
  ·have:=we u0.aJ (dU (eU u0.aJ) s).2
   omega
  exact h0.path
theorem Sy{u0:Url}{s:O}(h0:Ul L M u0)(hs:s.length<=L)(hM:3*L+3<=M)(h:iy u0 s=some u):Ul L M u:=by
 unfold iy at h;dsimp only at h;have hc:=nK true s;have hp2:=we u0.aJ (dU true s).2;have hs2:=iF u0.aJ [] s;have e:(cH ([]:List O)).length=0:=rfl;rw[e]at hs2
 split at h
 ·injection h with h
  rw[<-h];exact⟨h0.aJ,h0.usr,h0.er,h0.host,h0.flat,by dsimp only;omega,h0.q,h0.f⟩
 split at h
 ·injection h with h
  rw[<-h];exact⟨h0.aJ,h0.usr,h0.er,h0.host,h0.flat,by dsimp only;omega,h0.q,h0.f⟩
 cases hO:fm (dU true s).1 true with
 |none=>rw[hO]at h;cases h
 |some g =>
  rw[hO]at h;injection h with h
  rw[<-h];refine⟨h0.aJ,h0.usr,h0.er,?_,h0.flat,by dsimp only;omega,h0.q,h0.f⟩;dsimp only
  split
  ·exact h0.host
  exact .inl ⟨_,_,M0,hO⟩
theorem D7(h0:Ul L M u)(U:Ul L M b):Ul L M (fM u b):=by
 unfold fM
 split
 ·exact⟨h0.aJ,h0.usr,h0.er,h0.host,h0.flat,U.path,h0.q,h0.f⟩
 exact⟨h0.aJ,h0.usr,h0.er,h0.host,h0.flat,U.path,U.q,h0.f⟩
theorem Ul.more{M':Nat}(h:Ul L M u)(hM:M<=M'):Ul L M' u:=⟨h.aJ,h.usr,h.er,h.host,h.flat,am h.path hM,h.q,h.f⟩
theorem pf(h0:Ul L M u)(l:List O){M':Nat}(hl:(cH l).length<=M'):Ul L M' {u with path:=l}:=⟨h0.aJ,h0.usr,h0.er,h0.host,h0.flat,hl,h0.q,h0.f⟩
theorem Wz(hp:Pl L p)(hL:4<=L)(U:Ul L M b)(h:lG b p=some u):Ul L (M+3*L+3) u:=by
 have h0:Ul L (M+3*L+3) (dp aR p):=rA hp hL;have hr:=hp.rest;have hbp:=U.path;rw[vp]at h
 have I:Ul L (M+3*L+3) (Nb b p):=by
  unfold Nb
  split
  ·exact⟨h0.aJ,h0.usr,h0.er,U.host,h0.flat,h0.path,h0.q,h0.f⟩
  exact⟨h0.aJ,h0.usr,h0.er,.inr rfl,h0.flat,h0.path,h0.q,h0.f⟩
 split at h
 ·exact Sy (u0:={dp aR p with host:={H0 with kind:=1}}) ⟨h0.aJ,h0.usr,h0.er,.inr rfl,h0.flat,h0.path,h0.q,h0.f⟩ (by rw[aj];omega) M0 h
 split at h
 ·injection h with h
  rw[<-h];refine pf I _ ?_;have h3:=iF aR (if b.aJ=aR then yq b (p.rest.drop 1)else []) (p.rest.drop 1)
  have h4:(cH (if b.aJ=aR then yq b (p.rest.drop 1)else [])).length<=M:=by
   split
   ·exact am (QC _ _) hbp
   simp[cH]
  rw[aj]at h3;omega
 split at h
 ·injection h with h
  rw[<-h];exact D7 I (U.more M0)
 split at h
 ·injection h with h
  rw[<-h];refine pf I _ ?_;have h3:=iF aR (cE aR b.path) p.rest;have h4:=om (aJ:=aR) (l:=b.path);omega
 injection h with h
 rw[<-h];refine pf I _ ?_;have h3:=iF aR [] p.rest;have e:(cH ([]:List O)).length=0:=rfl;omega
theorem Sz(hp:Pl L p)(h:gi p=some u):Ul L (3*L+3) u:=by
 have h0:Ul L (3*L+3) (dp p.aJ p):=rA hp hp.aJ;have hr:=hp.rest;unfold gi at h;dsimp only at h
 split at h
 ·next r he =>
  rw[he]at hr;simp only[ah]at hr;exact Ba h0 M0 (ag _) h
 ·next r _ he =>
  rw[he]at hr;simp only[ah]at hr;injection h with h
  rw[<-h];refine pf h0 _ ?_;have h3:=iF p.aJ [] r;have e:(cH ([]:List O)).length=0:=rfl;show(cH (da p.aJ [] r)).length<=_;omega
 injection h with h
 rw[<-h];refine⟨h0.aJ,h0.usr,h0.er,h0.host,?_,h0.path,h0.q,h0.f⟩;have h3:=gv 0 p.rest;dsimp only
 split
 ·simp only[ae,fY,ah,aO];omega
 omega
theorem WA(hp:Pl L p)(U:Ul L M b)(h:k5 b p=some u):Ul L M u:=by
 unfold k5 at h
 split at h
 ·cases h
 injection h with h
 rw[<-h];refine⟨U.aJ,U.usr,U.er,U.host,U.flat,U.path,U.q,?_⟩;have Y:=gv 1 p.f;have I:=hp.f;show(dD 1 p.f).length<=_;omega
theorem a03(hp:Pl L p)(U:Ul L M b)(h:ri b p=some u):Ul L (M+3*L+3) u:=by
 have h0:Ul L (M+3*L+3) (dp b.aJ p):=rA hp U.aJ;have hr:=hp.rest;have hbp:=U.path;have hA:Ul L (M+3*L+3) (takeA (dp b.aJ p) b):=⟨h0.aJ,U.usr,U.er,U.host,h0.flat,h0.path,h0.q,h0.f⟩;unfold ri at h;dsimp only at h
 split at h
 ·exact Ba h0 (by rw[aj];omega) M0 h
 split at h
 ·exact Ba h0 (by rw[aj];omega) M0 h
 split at h
 ·injection h with h
  rw[<-h];refine pf hA _ ?_;have h3:=iF b.aJ [] (p.rest.drop 1);have e:(cH ([]:List O)).length=0:=rfl;rw[aj]at h3;omega
 split at h
 ·injection h with h
  rw[<-h];exact D7 hA (U.more M0)
 injection h with h
 rw[<-h];refine pf hA _ ?_;have h3:=iF b.aJ (cE b.aJ b.path) p.rest;have h4:=om (aJ:=b.aJ) (l:=b.path);omega
theorem JM(hp:Pl L p)(hL:4<=L)(U:Ul L M b)(h:eL b p=some u):Ul L (M+3*L+3) u:=by
 unfold eL at h
 split at h
 ·exact Wz hp hL U h
 split at h
 ·have:=hp.rest
  exact Ba (rA hp hp.aJ) (by rw[aj];omega) M0 h
 split at h
 ·exact(Sz hp h).more M0
 split at h
 ·exact(WA hp U h).more M0
 exact a03 hp U h
end
theorem a5N(L:Nat):Ul L 0 U0:=⟨aL _,aL _,aL _,.inr rfl,aL _,aL _,aL _,aL _⟩
theorem oG{s:O}{u:Url}{L:Nat}(hs:s.length<=L)(hL:4<=L)(h:eF s=some u):Ul L (3*L+3) u:=by
 unfold eF at h
 split at h
 ·have:=JM (M:=0) (Jx hs) hL (a5N L) h
  rw[bM]at this;exact this
 cases h
theorem SD{b u:Url}{s:O}{L M:Nat}(hs:s.length<=L)(hL:4<=L)(U:Ul L M b)(h:kF b s=some u):Ul L (M+3*L+3) u:=JM (Jx hs) hL U h
theorem a1I{l n:O}(hl:l.length<=1000)(hd:nw (nJ l)=some n):n.length<=102400000:=by
 have Y:=rf _ l (ag _);have I:=rx (signs (nJ l));have h3:=lR _ (nJ l) (ag _);have h4:=Cg hd;omega
theorem a1J{s:O}{sp:Bool}{h:gF}(hh:fm s sp=some h)(hs:s.length<=1000):h.name.length<=102400000:=by
 have key:sS s sp h->h.name.length<=102400000:=by
  intro e;cases e with
  |six a h8 ha _=>exact aL _
  |name n e _ hd hn U he=>exact a1I hs hd
  |four n e _ h=>exact aL _
  |empty e h=>exact aL _
  |a0z e _ h U =>
   have:=VR s;show(dD 0 s).length<=_;omega
 exact key (hkind hh)
theorem a6V{L M:Nat}{u:Url}(h:Ul L M u)(hL:L<=1000)(hM:M<=1024000000):nc u:=by
 refine⟨by have:=h.aJ;omega,by have:=h.usr;omega,by have:=h.er;omega,?_,by have:=h.flat;omega,by have:=h.path;omega,by have:=h.q;omega,by have:=h.f;omega⟩;rcases h.host with⟨n,sp,hn,hh⟩|h
 ·exact a1J hh M0
 rw[h];exact aL _
theorem qQ{u:Url}(g:Good u):gG u:=by
 cases g.body with
 |opq Y I h3 h4 h5=>exact⟨by rw[h3];exact WN,by rw[h5.n];omega⟩
 |none Y I h3 h5=>exact⟨by rw[h3];exact WN,by rw[h5.n];omega⟩
 |file Y hs h3 h5 hp =>
  refine⟨?_,by rw[h5.n];omega⟩;rcases h3 with h3|⟨n,_,h3,_⟩
  ·rw[h3];exact⟨Oc,by simp[H0],rfl,xV⟩
  exact od (hkind h3)
 |asked Y hs ha hp =>
  obtain⟨n,hh,_⟩:=ha.h;refine⟨od (hkind hh),?_⟩;rcases ha.q with⟨_,h⟩|⟨_,I,h3,_⟩
  ·have h:u.port=0:=h
   rw[h];omega
  have I:0<=u.port:=I;have h3:u.port<=65535:=h3;omega
theorem Sx{L M:Nat}{u:Url}(h:Ul L M u)(hM:M<=307200000):u.path.length<=307200000/\∀ x∈u.path,List.length x<=1024000000:=by
 have Y:=h.path;have I:=Db u.path;refine⟨M0,λx X=>?_⟩
 have key:∀ l:List O,x∈l->x.length<=(cH l).length:=by
  intro l
  induction l with
  |nil=>intro h;cases h
  |cons p r ih =>
   intro h;unfold cH;simp only[ae];rcases aK.mp h with rfl|h
   ·omega
   have:=ih h;omega
 have:=key _ X;omega

theorem sB{w:H}{base e:Nat}{v:Z}{l:List O}(h:w.ownsRow base e 1 v l.length (Strs l)):w.ownsRow base e 1 v (Strs l).length (Strs l):=by
 rw[show(Strs l).length=l.length from ay _];exact h
structure zK (u:Url):Prop where
 ok:gG u
 sm:nc u
 E:u.path.length<=307200000/\∀ x∈u.path,List.length x<=1024000000
theorem zK.six{u:Url}(h:zK u):u.host.six.length=8:=h.ok.h.l
theorem zK.b{u:Url}(h:zK u):Bs u.path:=⟨h.E.1,h.E.2⟩
theorem WB(u:Url)(A:Z)(w:H)(h:zK u)(hs:Sl w.heap.size w A (u.path.map S))(hE:NE w):bF prog 37 #[.agg (ai A u),.bool true] w (S (dA u true)) :=
 rr u (ai A u) A true w (lV A h.ok) hs h.sm hE
theorem a2s{s:O}{u:Url}(hs:s.length<=1000)(h:eF s=some u):zK u:=by
 have hl:=oG hs M0 h;exact⟨qQ (kG h),a6V hl (ag _) M0,Sx hl M0⟩

theorem Uh{s:O}{k:Nat}(h:k<s.length):bT (s.drop k)=if f8 s[k]=true then bT (s.drop (k+1))else s.drop k:=by
 rw[aC h];unfold bT;cases U:f8 s[k]with
 |true=>rw[aQ U,if_pos rfl]
 |false=>rw[aX (by rw[U];simp),if_neg Oc]
theorem js(s:O)(w:H)(hL:s.length<=1000000000):bP prog 89 #[.string (E s)] w (S (bT s)):=by
 obtain⟨b,U⟩:=V (E s);obtain⟨L,hl⟩:=V (s.length);have hsz:b.size=L:=by rw[U,aF,hl]
 obtain⟨R,hR⟩:=V (bT s);have HR0:=F (show R=bT (s.drop 0)from hR);have SL:=F (show L=s.length/\b=E s from⟨hl,U⟩);rw[<-U,<-hR];rw[<-hl]at hL;clear U hl hR;go_enter func89,ntmps89;go_wp2_with fail
 go_loopw [3] (λiv wr=>∃ k:Nat,k<=L/\iv=.int .i64 k/\Hid (R=bT (s.drop k))/\wr=w) (λi _=>L-(intOf i).toNat)
 case atStart=>exact⟨0,aL _,rfl,HR0,rfl⟩
 case round =>
  obtain⟨k,hk,rfl,HR,hw⟩:=hrel;subst wr;by_cases hlt:k<L
  ·have hkl:k<s.length:=by have:=SL.o.1;omega
   have hkb:k<b.size:=M0;have X:=cy SL.o.2 hkb hkl;have hst:=HR.o;rw[Uh hkl]at hst;have hbl:=λW=>fh (G s[k]) W;have hbb:iW (G s[k])=f8 s[k]:=rfl;rw[hbb]at hbl;obtain⟨z,hz⟩:=V (G s[k]);rw[<-hz]at X hbl;cases hq:f8 s[k]with
   |true =>
    rw[hq,if_pos rfl]at hst;rw[hq]at hbl;have HS:=F hst;have lZ:=F hbl;clear hst hbl hbb hz hq
    go_wp2_with (first|(go_at_call 74;refine(lZ.o _).m ?_;rintro e w3 ⟨rfl,hw⟩;subst w3))
    go_roundw
    case rel=>exact⟨k+1,M0,by go_num,HS,by trivial⟩
    case measure=>simp[intOf];omega
   |false =>
    rw[hq,if_neg Oc]at hst;rw[hq]at hbl;have hex:b.extract k L=E R:=by rw[SL.o.2,cd,hst,aP (by rw[aj];have:=SL.o.1;omega)]
    obtain⟨rb,hrb⟩:=V (E R);rw[<-hrb]at hex;have xo:=F hrb;have lZ:=F hbl;clear hst hbl hbb hz hq hrb
    go_wp2_with (first|(go_at_call 74;refine(lZ.o _).m ?_;rintro e w3 ⟨rfl,hw⟩;subst w3))
    go_ret;exact⟨by rw[show S R=.string rb by rw[xo.o]];rfl,rfl⟩
  obtain rfl:k=L:=M0;have hst:=HR.o;rw[SL.o.1,dF]at hst;have HS:=F (show R=[]from hst);clear hst;go_wp2_with fail;go_ret;exact⟨by rw[HS.o];rfl,rfl⟩

theorem Zi(x:UInt8)(r:O):(Lib.cut r [x]).1=r.takeWhile (· != x):=by
 by_cases h:x∈r
 ·obtain⟨p,q,e,hp,hc⟩:=ou h
  rw[hc,e]
  have ha:∀ y∈p,(y != x)=true:=λy hy=>by
   have:y≠x:=λe=>hp (e▸hy)
   simpa using this
  rw[A7 _ ha,bI Oc,aV]
 rw[q7 h]
 have ha:∀ y∈r,(y != x)=true:=λy hy=>by
  have:y≠x:=λe=>h (e▸hy)
  simpa using this
 have:=A7 (d:=r) [] ha;rw[aV]at this;rw[this];simp
theorem Bb(s:O)(w:H)(hL:s.length<=1000000000)(hE:Env w):bF prog 92 #[.string (E s)] w (S (xI s)):=by
 cases s with
 |nil =>
  go_enter func92,ntmps92;obtain⟨b,U⟩:=V (E []);have e1:b.toList.isEmpty=true:=by rw[U,aB];rfl
  have e2:b.toList=[]:=by rw[U,aB]
  rw[<-U];have HB:=F U;clear U;go_wp2_with fail;go_ret;exact⟨by rw[show S (xI [])=.string b by rw[HB.o];rfl];rfl,Below.refl _ _⟩
 |cons x r =>
  obtain⟨b,U⟩:=V (E (x::r));have e1:b.toList.isEmpty=false:=by rw[U,aB];rfl
  have e2:¬ b.toList=[]:=by rw[U,aB];simp
  have hsz:b.size=r.length+1:=by rw[U,aF];rfl
  have h0:0<b.size:=M0;have X:=cy U h0 Oc;rw[show G (x::r)[0]=G x from rfl]at X;rw[<-U];obtain⟨N,hN⟩:=V (r.length+1);rw[<-hN]at hsz;have hN1:1<=N:=M0;have hN0:0<N:=M0;have UY:(1:Int)<=(N:Int):=M0;by_cases hq:x=34\/x=39
  ·have hun:xI (x::r)=(Lib.cut r [x]).1:=by rw[Zi];show(if x=34\/x=39 then r.takeWhile (· != x)else x::r)=_;rw[if_pos hq]
   obtain⟨rb,hrb⟩:=V (E r);obtain⟨xb,hxb⟩:=V (E [x]);have pT:b.extract 1 N=rb:=by rw[U,hrb,cd,hN];simp
   have n9:b.extract 0 1=xb:=by rw[U,hxb,cd];simp
   have hct:=λW (hW:r7 w W)=>gK r [x] W (by rw[ah]at hL;omega) (hE.below hW);obtain⟨C,hC⟩:=V (Lib.cut r [x]);rw[<-hC]at hct hun;rw[<-hrb,<-hxb]at hct;have Hq:=F hct;have HU:=F hun;rcases hq with rfl|rfl
   all_goals
    clear hct hun hC hrb hxb U hN
    first|rw[show G 34=34 from rfl]at X|rw[show G 39=39 from rfl]at X
    go_enter func92,ntmps92;go_wp2_with fail;refine wp_region_held_drew (S:=λW=>r7 w W) Rz (by exact bG (bg _)) (λhHeld=>?_);refine tq 0 rfl ?_ (λw hSw=>?_) ?_;rotate_left
    ·(try dsimp only at hSw);go_simp;first|done|with_reducible rfl
    try simp only[Act.put,fH,fI,fJ]
    refine tq 1 rfl ?_ (λw hSw=>?_) ?_;rotate_left
    ·(try dsimp only at hSw);go_simp;first|done|with_reducible rfl
    try simp only[Act.put,fH,fI,fJ]
    refine tq 2 rfl ?_ (λw hSw=>?_) ?_;rotate_left
    ·(try dsimp only at hSw);go_simp;first|done|with_reducible rfl
    try simp only[Act.put,fH,fI,fJ]
    refine tq 3 rfl ?_ (λw hSw=>?_) ?_;rotate_left
    ·(try dsimp only at hSw);go_simp;first|done|with_reducible rfl
    try simp only[Act.put,fH,fI,fJ]
    refine rn 4 Rz rfl r5 (λK hK=>?_)
    go_simp
    refine(Hq.o _ hHeld).m ?_;rintro e w3 ⟨rfl,hb3⟩;have hB3:=hHeld.trans (hb3.m hHeld.size);clear hb3;refine hK.out _ _ ?_ (λhHeld=>?_)
    ·first|exact bG (bg _)|assumption
    clear hK K;refine tq 5 rfl ?_ (λw hSw=>?_) ?_;rotate_left
    ·(try dsimp only at hSw);go_simp;first|done|with_reducible rfl
    try simp only[Act.put,fH,fI,fJ]
    refine tq 6 rfl ?_ (λw hSw=>?_) ?_;rotate_left
    ·(try dsimp only at hSw);go_simp;first|done|with_reducible rfl
    try simp only[Act.put,fH,fI,fJ]
    refine tq 7 rfl ?_ (λw hSw=>?_) ?_;rotate_left
    ·(try dsimp only at hSw);go_simp;first|done|with_reducible rfl
    try simp only[Act.put,fH,fI,fJ]
    refine tq 8 rfl ?_ (λw hSw=>?_) ?_;rotate_left
    ·(try dsimp only at hSw);go_simp;first|done|with_reducible rfl
    try simp only[Act.put,fH,fI,fJ]
    refine tq 9 rfl ?_ (λw hSw=>?_) ?_;rotate_left
    ·(try dsimp only at hSw);go_simp;first|done|with_reducible rfl
    try simp only[Act.put,fH,fI,fJ]
    refine tq 10 rfl ?_ (λw hSw=>?_) ?_;rotate_left
    ·(try dsimp only at hSw);go_simp;first|done|with_reducible rfl
    try simp only[Act.put,fH,fI,fJ]
    refine tq 11 rfl ?_ (λw hSw=>?_) ?_;rotate_left
    ·(try dsimp only at hSw);go_simp;first|done|with_reducible rfl
    try simp only[Act.put,fH,fI,fJ]
    refine wpAnyH_done Rz ?_ _;go_wp2_with fail;go_ret;exact⟨by rw[HU.o];rfl,hB3⟩
  have hun:xI (x::r)=x::r:=by show(if x=34\/x=39 then r.takeWhile (· != x)else x::r)=_;rw[if_neg hq]
  have q34:(G x==34)=false:=by simp;exact λe=>hq (.inl (eX e))
  have q39:(G x==39)=false:=by simp;exact λe=>hq (.inr (eX e))
  obtain⟨z,hz⟩:=V (G x);rw[<-hz]at X q34 q39;have b0k:¬ z=34:=by simpa using q34
  have b0l:¬ z=39:=by simpa using q39
  have n34:(z != 34)=true:=by simpa using b0k
  have n39:(z != 39)=true:=by simpa using b0l
  have HU:=F (show S (xI (x::r))=.string b by rw[hun,U]);clear hun hq hz U hN;go_enter func92,ntmps92;go_wp2_with fail;go_ret;exact⟨by rw[HU.o];rfl,Below.refl _ _⟩
theorem Zs(l:O):Lib.hasPrefix l [61]=decide (l.head? = some 61):=by
 cases l with
 |nil=>rfl
 |cons x r =>
  show((61==x)&&true)=_;rw[nk,oI];by_cases h:x=61
  ·subst h;rfl
  rw[decide_eq_false (by simpa using h)];simp only[beq_eq_false_iff_ne];exact λe=>h e.symm
theorem D8(s:O)(w:H)(hL:s.length<=1000000000):bF prog 93 #[.string (E s)] w (S (lW s)):=by
 obtain⟨b,U⟩:=V (E s);obtain⟨N,hN⟩:=V (s.length);have hsz:b.size=N:=by rw[U,aF,hN]
 have hS:S s=.string b:=by rw[U]
 obtain⟨U',hU⟩:=V (lW s);rw[<-U,<-hU];by_cases h3:s.length<3
 ·have HU:=F (show S U'=.string b by
   rw[hU,<-hS];unfold lW;rw[if_neg];intro e;have:=congrArg List.length e;rw[ay,aD]at this;simp[a05]at this;omega)
  have hN3:(N:Int)<3:=M0;clear hU hS U hN h3;go_enter func93,ntmps93;go_wp2_with fail;go_ret;exact⟨by rw[HU.o];rfl,Below.refl _ _⟩
 have hN3:3<=N:=M0;have b4m:¬ (N:Int)<3:=M0;obtain⟨tb,htb⟩:=V (E (s.take 3));have hex:b.extract 0 3=tb:=by rw[U,htb,cd];simp
 have hlo:=λW=>ik (s.take 3) W (by rw[aD];unfold maxLen;omega);unfold TW at hlo;rw[<-htb]at hlo;obtain⟨lb,hlb⟩:=V (E ((s.take 3).map dK));rw[show S ((s.take 3).map dK)=.string lb by rw[hlb]]at hlo;have Yw:=F hlo;by_cases hu:(s.take 3).map dK=a05
 ·have hue:lW s=match bT (s.drop 3)with
   | []=>s
   |c::t=>if c=61 then bT t else s:=by unfold lW;rw[if_pos hu];rfl
  have q1:(lb.toList == [117,114,108])=true:=by rw[hlb,aB,hu];rfl
  have q2:lb.toList=[117,114,108]:=by rw[hlb,aB,hu];rfl
  obtain⟨db,hdb⟩:=V (E (s.drop 3));have vE:b.extract 3 N=db:=by rw[U,hdb,cd,hN,aP (by rw[aj];omega)]
  obtain⟨Z',hZ⟩:=V (bT (s.drop 3))
  have hZl:Z'.length<=1000000000:=by
   rw[hZ];refine am (ce _).length_le ?_;rw[aj];omega
  have hb1:=λW=>js (s.drop 3) W (by rw[aj];omega);rw[<-hdb,<-hZ]at hb1;obtain⟨zb,hzb⟩:=V (E Z');rw[show S Z'=.string zb by rw[hzb]]at hb1;have HB1:=F hb1;have hcp:=λW=>uW Z' [61] W;rw[<-hzb,Zs]at hcp;rw[<-hZ]at hue;by_cases hh:Z'.head? = some 61
  ·obtain⟨t,ht⟩:∃ t,Z'=61::t:=by
    cases Z' with
    |nil=>cases hh
    |cons c t=>exact⟨t,by rw[oI]at hh;rw[bj hh]⟩
   rw[ht]at hue hZl;rw[decide_eq_true hh,ht,show Lib.trimPrefix (61::t) [61]=t from rfl]at hcp;obtain⟨tt,Ep⟩:=V (E t);rw[show S t=.string tt by rw[Ep]]at hcp;have hb2:=λW=>js t W (by rw[ah]at hZl;omega);rw[<-Ep]at hb2;have Ey:=F (show ∀W,bP prog 134 #[.string zb,.string ⟨#[61]⟩] W (.tuple #[.string tt,.bool true])from hcp);have HB2:=F hb2;have HU:=F (show U'=bT t by rw[hU,hue];rfl);clear hU hS U hN h3 hlo hu hue hZ hb1 hzb hcp hh ht Ep hb2 hdb hlb htb hZl;go_enter func93,ntmps93
   go_wp2_with (first
    |(go_at_call 32;refine(Yw.o _).m ?_;rintro e w1 ⟨rfl,hb1⟩;have HW1:=F hb1;clear hb1)
    |(go_at_call 89;with_reducible first|refine(HB1.o _).m ?_;rintro e w2 ⟨rfl,hw⟩;subst w2)
    |(go_at_call 134;refine(Ey.o _).m ?_;rintro e w3 ⟨rfl,hw⟩;subst w3)
    |(go_at_call 89;with_reducible first|refine(HB2.o _).m ?_;rintro e w4 ⟨rfl,hw⟩;subst w4))
   go_ret;exact⟨by rw[HU.o];rfl,HW1.o⟩
  rw[decide_eq_false hh]at hcp;obtain⟨tt,Ep⟩:=V (Lib.trimPrefix Z' [61]);rw[<-Ep]at hcp;have Ey:=F (show ∀W,bP prog 134 #[.string zb,.string ⟨#[61]⟩] W (.tuple #[S tt,.bool false])from hcp)
  have HU:=F (show S U'=.string b by
   rw[hU,<-hS,hue];cases Z' with
   |nil=>rfl
   |cons c t =>
    have:c≠61:=λe=>hh (by rw[e];rfl);show S (if c=61 then bT t else s)=S s;rw[if_neg this])
  clear hU hS U hN h3 hlo hu hue hZ hb1 hzb hcp hh Ep hdb hlb htb hZl;go_enter func93,ntmps93
  go_wp2_with (first
   |(go_at_call 32;refine(Yw.o _).m ?_;rintro e w1 ⟨rfl,hb1⟩;have HW1:=F hb1;clear hb1)
   |(go_at_call 89;with_reducible first|refine(HB1.o _).m ?_;rintro e w2 ⟨rfl,hw⟩;subst w2)
   |(go_at_call 134;refine(Ey.o _).m ?_;rintro e w3 ⟨rfl,hw⟩;subst w3))
  go_ret;exact⟨by rw[HU.o];rfl,HW1.o⟩
 have q1:(lb.toList == [117,114,108])=false:=by rw[hlb,aB];exact beq_eq_false_iff_ne.mpr hu
 have q2:¬ lb.toList=[117,114,108]:=by rw[hlb,aB];exact hu
 have HU:=F (show S U'=.string b by rw[hU,<-hS];unfold lW;rw[if_neg hu]);clear hU hS U hN h3 hlo hu hlb htb;go_enter func93,ntmps93
 go_wp2_with (first
  |(go_at_call 32;refine(Yw.o _).m ?_;rintro e w1 ⟨rfl,hb1⟩;have HW1:=F hb1;clear hb1))
 go_ret;exact⟨by rw[HU.o];rfl,HW1.o⟩

def jP:Url:={U0 with aJ:=[104,116,116,112],host:={H0 with kind:=2,name:=[104]},path:=[[97],[98]]}
theorem tN:zK jP:=⟨⟨⟨P8,P8,rfl,P8⟩,P8⟩,⟨P8,P8,P8,P8,P8,P8,P8,P8⟩,P8,P8⟩
theorem srP:eF [104,116,116,112,58,47,47,104,47,97,47,98]=some jP:=Rz
