/- Joined texts. -/
import Derived.Test.YtajblocgpkpmeaaGreatDoorSGWlkT
set_option maxHeartbeats 40000000
namespace Go.Proofs.YtajblocgpkpmeaaGreatDoor
open Tryz
open Go.RowKit
set_option maxRecDepth 10000
theorem yj(s:O):(eN s).length<=s.length:=am (zi _) (sN _)
theorem zd(s:O):(fw s).rest.length<=s.length/\(fw s).q.length<=s.length/\(fw s).f.length<=s.length:=by
 have a:=fD 35 s;have b:=fD 63 (bQ 35 s).1;have c:=fD 58 (bQ 63 (bQ 35 s).1).1;unfold fw;dsimp only
 split <;>(dsimp only;omega)
theorem a47(p:kW):(aW p).all (·.oneCell')=true:=all_oneCell_toArray (cs:=(aW p).toList) Ju
theorem xf{f:Func}{k m:Nat}(g:f.results=#[.cell k 34,.tmp m]){tmps:Array Z}{w0 w2:H}{b:Nat}{A:Z}{u:Url}{q:Bool}{Post:Ending->H->Prop}(d:u.host.six.length=8)(h:tmps.getD k undef=.pointer (some ⟨b,0,none⟩))(hm:tmps.getD m undef=.bool q)
  (i:OB w0 b 34 (ai A u) w2) (e:Post (.returned (.tuple #[.agg (ai A u),.bool q])) w2) :
  bodyPost prog f Post Exit.ret {tmps:=tmps,defers:=[]} w2:=by
 have a:tmps[k]?.getD undef=.pointer (some ⟨b,0,none⟩):=by simpa using h
 have c:tmps[m]?.getD undef=.bool q:=by simpa using hm
 have j:=i.load (P:=prog) 34 _ underlying34 rfl (by rw[kJ d];exact iJ);refine bodyPost_ret (v:=.tuple #[.agg (ai A u),.bool q]) ?_ rfl e;simp[results,g,asAddr,a,c,j]
theorem xg(s:O)(w:H)(hs:s.length<=1048576)(B:Env w):Calls prog 33 #[.string (E s)] w (uK w (eF s)):=by
 have D:=yj s;obtain⟨p,hp⟩:=V (fw (eN s));have r:=zd (eN s);rw[<-hp]at r;have l:∀ u,eL U0 p=some u->u.host.six.length=8:=λu h=>ot (b:=U0) rfl h;obtain⟨c,C⟩:=V (E (eN s));have xl:=F (show ∀W,bF prog 36 #[.string (E s)] W (.string c)from λW=>by rw[C];exact yi s W M0);have ji:=F (show ∀W,r7 w W->bF prog 35 #[.string c] W (.agg (aW p))from λW U=>by rw[C,hp];exact za (eN s) W M0 (B.below U));have K:=F<|λW (U:r7 w W)=>zq U0 aI p W rfl Sl.nil ⟨by simp[U0],by simp[U0]⟩ (Yb M0) M0 M0 (B.below U);obtain⟨R,n⟩:=V (eF s);rw[<-n];unfold eF at n;rw[<-hp]at n;obtain⟨z,hz⟩:=V (E s);rw[<-hz]at xl ⊢;have L:=F n;have Yv:=F l;clear n hz C hp r D hs B l;go_enter func33,ntmps33
 go_upto_region 1 with(first|(refine aM rfl 34 rfl _ _ (eD _) ?_))
 have N:=F<|OB.fresh w 34 (ai aI U0);obtain⟨w1,t⟩:=V (w.alloc (.cells (ai aI U0) 34));rw[<-t]at N ⊢;clear t
 go_upto_region 2 with(first|(go_at_call 36;refine(xl.o _).m ?_;rintro e w2 ⟨rfl,U⟩;have M:=F<|N.o.below U;clear U)|(go_at_call 35;refine(ji.o _ M.o.bL).m ?_;rintro e w3 ⟨rfl,U⟩;have I3:=F<|M.o.below U;clear U)|(refine aM rfl 78 rfl _ _ (a27 _) ?_)|(refine jG rfl 78 (.tmp 4) (.tmp 7) rfl (aW p) (aW P0) mO rfl (a47 p) rfl rfl rfl ?_;intro w4 T U;have y:=F T;have d:=F<|I3.o.below U;clear T U))
 have d0:=y.o.aE (j:=0) (v:=.bool p.gR) rfl;cases g:p.gR with
 |false =>
  rw[g]at d0;have k:=F (show R=none by rw[L.o,if_neg (by simp[g])]);clear g
  go_wp2_with (first|(refine fV rfl (.tmp 2) (.tmp 11) rfl w w.heap.size d.o aI U0 rfl rfl rfl rfl ?_;intro w5 i5 _;have f:=F i5;clear i5))
  rw[k.o];exact xf (u:=U0) (q:=false) results33 rfl rfl rfl f.o ⟨rfl,f.o.bL⟩
 |true =>
  rw[g]at d0;have xo:=F (show R=eL U0 p by rw[L.o,if_pos g]);clear g;cases a:eL U0 p with
  |none =>
   have k:=F (show R=none by rw[xo.o,a]);have J:=F<|λW U=>(show bF prog 34 #[.agg (ai aI U0),.agg (aW p)] W (.tuple #[.agg (ai aI U0),.bool false])from by have h:=K.o W U;rw[a]at h;exact h);clear a
   go_wp2_with (first|(refine kB rfl (.tmp 4) rfl w3.heap.size p y.o rfl ?_)|(go_at_call 34;refine(J.o _ d.o.bL).m ?_;rintro e w5 ⟨rfl,U⟩;have f:=F<|d.o.below U;clear U)|(refine fV rfl (.tmp 2) (.tmp 15) rfl w w.heap.size f.o aI U0 rfl rfl rfl rfl ?_;intro w6 x _;have i:=F x;clear x))
   rw[k.o];exact xf (u:=U0) (q:=false) results33 rfl rfl rfl i.o ⟨rfl,i.o.bL⟩
  |some u =>
   have k:=F (show R=some u by rw[xo.o,a]);have Q:=F<|Yv.o u a;have J:=F<|λW U=>(show Calls prog 34 #[.agg (ai aI U0),.agg (aW p)] W λe w'=>∃ A,e=.returned (.tuple #[.agg (ai A u),.bool true])/\w'.ownsRow W.heap.size 9 1 A u.path.length (Strs u.path)/\r7 W w' from by have h:=K.o W U;rw[a]at h;exact h);clear a
   go_wp2_with (first|(refine kB rfl (.tmp 4) rfl w3.heap.size p y.o rfl ?_)|(go_at_call 34;refine(J.o _ d.o.bL).m ?_;rintro e w5 ⟨A,rfl,o5,U⟩;have f:=F<|d.o.below U;have P:=F<|ea o5 (show w.heap.size+1<=_ from d.o.lt);clear U o5)|(refine fV rfl (.tmp 2) (.tmp 15) rfl w w.heap.size f.o A u Q.o (bm P.o) rfl rfl ?_;intro w6 x t6;have i:=F x;have O6:=F<|ea (t6.row P.o (bV _)) (gQ _);clear x t6))
   rw[k.o];exact xf (u:=u) (q:=true) results33 Q.o rfl rfl i.o ⟨A,rfl,O6.o,i.o.bL⟩
theorem a5H(w:H)(bv:Z)(u:Url):∃ W,(w.alloc (.cells (ai bv u) 34)).alloc (.cells (ai aI U0) 34)=W/\CB W w.heap.size 34 (ai bv u)/\OB w (w.heap.size+1) 34 (ai aI U0) W:=by
 have X:=CB.new w 34 (ai bv u);have U:=(Below.refl w.heap.size w).alloc (ag _) (.cells (ai bv u) 34);obtain⟨w1,c⟩:=V (w.alloc (.cells (ai bv u) 34));have d:w1.heap.size=w.heap.size+1:=by rw[c];simp
 rw[<-c]at X U ⊢;have hy:=CB.new w1 34 (ai aI U0);have a:=(Below.refl w1.heap.size w1).alloc (ag _) (.cells (ai aI U0) 34);rw[d]at hy;exact⟨_,rfl,X.keep a,OB.of hy (gQ _) (dw U a)⟩
theorem L4(a:Url)(bv:Z)(s:O)(w:H)(J:a.host.six.length=8)(y:Sl w.heap.size w bv (a.path.map S))(x:Bs a.path)(hs:s.length<=1048576)(N:Env w):Calls prog 10 #[.agg (ai bv a),.string (E s)] w (uK w (kF a s)):=by
 have Q:=yj s;obtain⟨p,hp⟩:=V (fw (eN s));have B:=zd (eN s);rw[<-hp]at B;have Yv:=F<|λu (h:eL a p=some u)=>ot J h;obtain⟨c,P⟩:=V (E (eN s));have R:=F (show ∀W,bF prog 36 #[.string (E s)] W (.string c)from λW=>by rw[P];exact yi s W M0);have ji:=F (show ∀W,r7 w W->bF prog 35 #[.string c] W (.agg (aW p))from λW U=>by rw[P,hp];exact za (eN s) W M0 (N.below U));have Be:=F<|λW (U:r7 w W)=>zq a bv p W J ((y.below U).more U.size) x (Yb M0) M0 M0 (N.below U);have H8:=F J;show Calls _ _ _ _ (uK w (eL a (fw (eN s))));rw[<-hp];obtain⟨z,hz⟩:=V (E s);rw[<-hz]at R ⊢;clear hz P hp B Q hs N J y x;obtain⟨W2,C,k1,k2⟩:=a5H w bv a;have K1:=F k1;have K2:=F k2;have n:=F C;clear k1 k2 C;have l:=F (show(prog.info? 34).map (·.size)=some (ai bv a).size by rw[kJ H8.o];exact iJ);cases v:eL a p with
 |none =>
  have T:=F<|λW U=>(show bF prog 34 #[.agg (ai bv a),.agg (aW p)] W (.tuple #[.agg (ai aI U0),.bool false])from by have h:=Be.o W U;rw[v]at h;exact h);clear v;go_enter func10,ntmps10
  go_upto_region 1 with(first|(refine aM rfl 34 rfl _ _ (eD _) ?_))
  rw[n.o];have d:=F<|K1.o.keep (bG (bg _));have L:=F<|K2.o.below (bG (bg _));refine wp_region_held_drew (S:=λW=>CB W w.heap.size 34 (ai bv a)) Rz (by with_reducible first|exact j.o|exact i.o|exact g.o|exact f.o|exact d.o) (λhHeld=>?_);refine tq 0 rfl ?_ (λwS hSw=>?_) ?_;rotate_left
  ·(try dsimp only at hSw)
   refine je 34 (.tmp 2) ?_ w.heap.size (ai bv a) _ underlying34 rfl l.o ?_ ?_
   ·rfl
   ·rfl
   exact hSw
  try simp only[Act.put,fH,fI,fJ]
  refine ek 1 ?_;refine rn 2 Rz rfl r5 (λK hK=>?_)
  go_simp
  refine(R.o _).m ?_;rintro e w2 ⟨rfl,U⟩;have f:=F<|d.o.keep U;have r:=F<|L.o.below U;clear U;refine hK.out _ _ ?_ (λhHeld=>?_)
  ·with_reducible first|exact j.o|exact i.o|exact g.o|exact f.o|exact d.o
  clear hK K;refine rn 3 Rz rfl r5 (λK hK=>?_)
  go_simp
  refine(ji.o _ r.o.bL).m ?_;rintro e w3 ⟨rfl,U⟩;have g:=F<|f.o.keep U;have k:=F<|r.o.below U;clear U;refine hK.out _ _ ?_ (λhHeld=>?_)
  ·with_reducible first|exact j.o|exact i.o|exact g.o|exact f.o|exact d.o
  clear hK K;refine rn 4 Rz rfl r5 (λK hK=>?_)
  go_simp
  refine(T.o _ k.o.bL).m ?_;rintro e w4 ⟨rfl,U⟩;have i:=F<|g.o.keep U;have M:=F<|k.o.below U;clear U;refine hK.out _ _ ?_ (λhHeld=>?_)
  ·with_reducible first|exact j.o|exact i.o|exact g.o|exact f.o|exact d.o
  clear hK K;refine ek 5 ?_;refine ek 6 ?_;refine rn 7 Rz rfl r5 (λK hK=>?_);refine j5 34 (.tmp 4) (.tmp 11) rfl w (w.heap.size+1) 34 (ai aI U0) M.o 0 (cu aI U0) rfl rfl (ag _) iJ (xe rfl) (ai aI U0) (rz rfl rfl) ?_;intro w5 i5 t5;have t:=F i5;have j:=F<|t5.cb i.o (cO (bV _));clear i5 t5;refine hK.out _ _ ?_ (λhHeld=>?_)
  ·with_reducible first|exact j.o|exact i.o|exact g.o|exact f.o|exact d.o
  clear hK K
  try simp only[Act.put]
  refine ek 8 ?_;refine wpAnyH_done Rz ?_ _;go_wp2_with fail;exact xf (u:=U0) (q:=false) results10 rfl rfl rfl t.o ⟨rfl,t.o.bL⟩
 |some u =>
  have D:=F<|Yv.o u v;have T:=F<|λW U=>(show Calls prog 34 #[.agg (ai bv a),.agg (aW p)] W λe w'=>∃ A,e=.returned (.tuple #[.agg (ai A u),.bool true])/\w'.ownsRow W.heap.size 9 1 A u.path.length (Strs u.path)/\r7 W w' from by have h:=Be.o W U;rw[v]at h;exact h);clear v;go_enter func10,ntmps10
  go_upto_region 1 with(first|(refine aM rfl 34 rfl _ _ (eD _) ?_))
  rw[n.o];have d:=F<|K1.o.keep (bG (bg _));have L:=F<|K2.o.below (bG (bg _));refine wp_region_held_drew (S:=λW=>CB W w.heap.size 34 (ai bv a)) Rz (by with_reducible first|exact j.o|exact i.o|exact g.o|exact f.o|exact d.o) (λhHeld=>?_);refine tq 0 rfl ?_ (λwS hSw=>?_) ?_;rotate_left
  ·(try dsimp only at hSw)
   refine je 34 (.tmp 2) ?_ w.heap.size (ai bv a) _ underlying34 rfl l.o ?_ ?_
   ·rfl
   ·rfl
   exact hSw
  try simp only[Act.put,fH,fI,fJ]
  refine ek 1 ?_;refine rn 2 Rz rfl r5 (λK hK=>?_)
  go_simp
  refine(R.o _).m ?_;rintro e w2 ⟨rfl,U⟩;have f:=F<|d.o.keep U;have r:=F<|L.o.below U;clear U;refine hK.out _ _ ?_ (λhHeld=>?_)
  ·with_reducible first|exact j.o|exact i.o|exact g.o|exact f.o|exact d.o
  clear hK K;refine rn 3 Rz rfl r5 (λK hK=>?_)
  go_simp
  refine(ji.o _ r.o.bL).m ?_;rintro e w3 ⟨rfl,U⟩;have g:=F<|f.o.keep U;have k:=F<|r.o.below U;clear U;refine hK.out _ _ ?_ (λhHeld=>?_)
  ·with_reducible first|exact j.o|exact i.o|exact g.o|exact f.o|exact d.o
  clear hK K;refine rn 4 Rz rfl r5 (λK hK=>?_)
  go_simp
  refine(T.o _ k.o.bL).m ?_;rintro e w4 ⟨A,rfl,o4,U⟩;have i:=F<|g.o.keep U;have M:=F<|k.o.below U;have O4:=F<|ea o4 (show w.heap.size+2<=_ from k.o.lt);clear o4;clear U;refine hK.out _ _ ?_ (λhHeld=>?_)
  ·with_reducible first|exact j.o|exact i.o|exact g.o|exact f.o|exact d.o
  clear hK K;refine ek 5 ?_;refine ek 6 ?_;refine rn 7 Rz rfl r5 (λK hK=>?_);refine j5 34 (.tmp 4) (.tmp 11) rfl w (w.heap.size+1) 34 (ai aI U0) M.o 0 (cu A u) rfl rfl (by rw[oF D.o];exact bW rfl) (by rw[oF D.o];exact iJ) (xe (bm O4.o)) (ai A u) (rz rfl D.o) ?_;intro w5 i5 t5;have t:=F i5;have O5:=F<|ea (t5.row O4.o (bV _)) (Nat.le_add_right _ 2);have j:=F<|t5.cb i.o (cO (bV _));clear i5 t5;refine hK.out _ _ ?_ (λhHeld=>?_)
  ·with_reducible first|exact j.o|exact i.o|exact g.o|exact f.o|exact d.o
  clear hK K
  try simp only[Act.put]
  refine ek 8 ?_;refine wpAnyH_done Rz ?_ _;go_wp2_with fail;exact xf (u:=u) (q:=true) results10 D.o rfl rfl t.o ⟨A,rfl,O5.o,t.o.bL⟩

theorem Wj(a b c d e g i j f h k l m n p q:Int)(D:Nat)(w:H):(Op.equalIn (D+2) 30 (.agg #[.int .u16 a,.int .u16 b,.int .u16 c,.int .u16 d,.int .u16 e,.int .u16 g,.int .u16 i,.int .u16 j]) (.agg #[.int .u16 f,.int .u16 h,.int .u16 k,.int .u16 l,.int .u16 m,.int .u16 n,.int .u16 p,.int .u16 q])).run prog w=.ok (decide ([a,b,c,d,e,g,i,j]=[f,h,k,l,m,n,p,q])) w:=by
 have hu:=underlying29;obtain⟨i8,r,s⟩:∃ i,prog.info? 29=some i/\i.size=1:=⟨_,rfl,Rz⟩;have o:prog.cellsOf 29=1:=Rz;rw[run_equalIn_array w (D+1) _ _ underlying30 r,o,show List.range 8=[0,1,2,3,4,5,6,7]from rfl];simp only[Op.eqItems];clear o s r
 go_simp
 repeat' split
 all_goals simp_all
theorem Vj(h x:gF)(Q:h.six.length=8)(m:x.six.length=8)(w:H)(q:Bool)(R:q=true ↔ h=x):(binOp .eql 32 (.agg (aT h)) (.agg (aT x))).run prog w=.ok (.bool q) w:=by
 obtain⟨k,n,f,six⟩:=h;obtain⟨L,o,B,six'⟩:=x;simp only at Q m;obtain⟨a,b,c,d,e,g,i,j,rfl⟩:=eight Q;obtain⟨p,r,s,t,u,v,y,z,rfl⟩:=eight m;have hS:prog.underlying 32=some (.struct (prog.fieldsOf 32)):=Rz;have hp:prog.stoodInHeld 32=false:=Rz;have P:aT ⟨k,n,f,[a,b,c,d,e,g,i,j]⟩=#[.int .i64 k,.string (E n),.int .u32 f,.int .u16 a,.int .u16 b,.int .u16 c,.int .u16 d,.int .u16 e,.int .u16 g,.int .u16 i,.int .u16 j]:=rfl;have l:aT ⟨L,o,B,[p,r,s,t,u,v,y,z]⟩=#[.int .i64 L,.string (E o),.int .u32 B,.int .u16 p,.int .u16 r,.int .u16 s,.int .u16 t,.int .u16 u,.int .u16 v,.int .u16 y,.int .u16 z]:=rfl;have h6:=λW=>Wj a b c d e g i j p r s t u v y z 9997 W;have hn:=rI n o;obtain⟨N,D⟩:=V (E n);obtain⟨M,C⟩:=V (E o);rw[<-D,<-C]at hn;rw[P,l,run_eql_struct,show(10000:Nat)=9999+1 from rfl,run_equalIn_agg w 9999 32 _ _ hS hp];rw[<-D,<-C];simp only[Program.fieldsOf,underlying32];obtain⟨T,J⟩:=V (decide ([a,b,c,d,e,g,i,j]=[p,r,s,t,u,v,y,z]));rw[<-J]at h6;clear P l D C
 have K:q=(decide (k=L)&&decide (n=o)&&decide (f=B)&&T):=by
  rw[bX,R,J];simp[and_assoc]
 clear J R;subst K
 go_simp
 repeat' split
 all_goals simp_all
section
variable {ops:Array Oper} {rest:List Oper} {o:Oper} {a:Act} {w:H} {Q:Exit->Act->H->Prop}
theorem a8I(f:Region.wanted o (yielded ops a.tmps)=true)(x y:Operand)(j:o.op=.binOp .eql 32 x y 32)(h c:gF)(i:h.six.length=8)(d:c.six.length=8)(q:Bool)(l:q=true ↔ h=c)(X:a.eval x=.agg (aT h))(hy:a.eval y=.agg (aT c))
  (k:wpList prog ops Q rest (a.put o.dst (.bool q)) w):wpList prog ops Q (o::rest) a w:=by
 refine nj f (.bool q) ?_ k;have e:=Vj h c i d w q l;have g:=run_eqGuard_agg (P:=prog) w .eql 32 x y (aT h) (aT c) Rz;unfold execOp;simp only[j,X,hy,Sem.run_bind,Sem.run_pure,Result.andThen_ok,e,g]
theorem b7u(c:Region.wanted o (yielded ops a.tmps)=true)(x:Operand)(e:o.op=.load 32 x)(b k:Nat)(h:gF)(d:h.six.length=8)(X:a.eval x=.pointer (some ⟨b,k,none⟩))(f:w.rangeAt b k (aS h))
  (K:wpList prog ops Q rest (a.put o.dst (.agg (aT h))) w):wpList prog ops Q (o::rest) a w :=
 nj c (.agg (aT h)) (gU 32 x e b k (aS h) _ underlying32 rfl (by rw[jb];simp[aS,d]) X f) K
end
theorem a5J(w:H)(pu A:Z)(u v:Url):∃ W,(w.alloc (.cells (ai pu u) 34)).alloc (.cells (ai A v) 34)=W/\r7 w W/\CB W w.heap.size 34 (ai pu u)/\CB W (w.heap.size+1) 34 (ai A v):=by
 have X:=CB.new w 34 (ai pu u);have U:=(Below.refl w.heap.size w).alloc (ag _) (.cells (ai pu u) 34);obtain⟨w1,d⟩:=V (w.alloc (.cells (ai pu u) 34));have e:w1.heap.size=w.heap.size+1:=by rw[d];simp
 rw[<-d]at X U ⊢;have hy:=CB.new w1 34 (ai A v);have c:=(Below.refl w1.heap.size w1).alloc (ag _) (.cells (ai A v) 34);rw[e]at hy;exact⟨_,rfl,dw U c,X.keep c,hy⟩
theorem DC{a:Act}{w c:H}{u v:Url}{q:Bool}(d:a.tmps.getD 4 undef=.bool q)(hd:a.defers=[])(U:r7 w c)(f:q=true ↔ u=v) :
  bodyPost prog f98 (λe g=>∃ q,e=.returned (.bool q)/\(q=true ↔ u=v)/\r7 w g) Exit.ret a c :=
 bodyPost_ret (v:=.bool q) (by rw[<-d];exact results_tmp (fn:=f98) (t:=4) r5 _ _ _) hd ⟨q,rfl,f,U⟩
theorem RT(u v:Url)(pu A:Z)(w:H){B C:Nat}(D:u.host.six.length=8)(J:v.host.six.length=8)(h:Sl B w pu (u.path.map S))(k:Sl C w A (v.path.map S))(hB:B<=w.heap.size)(hC:C<=w.heap.size)(hl:u.path.length<=1024000000)(hm:v.path.length<=1024000000) :
  Calls prog 98 #[.agg (ai pu u),.agg (ai A v)] w λe w'=>∃ q,e=.returned (.bool q)/\(q=true ↔ u=v)/\r7 w w':=by
 obtain⟨W,hW,U,g,i⟩:=a5J w pu A u v;have HW:=F hW;have HB:=F U;have hh:=h.below (U.m hB);have kk:=k.below (U.m hC);have M:=F<|KP u.path v.path pu A W hh kk hl hm;have U8:=F D;have V8:=F J;have ET:=ry pu u D;have d:=ry A v J;have R1:=F (show W.rangeAt w.heap.size 3 (aS u.host)from λj x hj=>g.aE (ET.host j x hj));have R2:=F (show W.rangeAt (w.heap.size+1) 3 (aS v.host)from λj x hj=>i.aE (d.host j x hj));have XB:=rI u.aJ v.aJ;obtain⟨a5R,F7⟩:=V (E u.aJ);obtain⟨a5U,Gc⟩:=V (E v.aJ);rw[<-F7,<-Gc]at XB;obtain⟨Xp,Pd⟩:=V (decide (u.aJ=v.aJ));rw[<-Pd]at XB;have b1H:W.cell? ⟨w.heap.size,0,none⟩=some (.string a5R):=by rw[F7];exact g.aE ET.aJ
 have b1M:W.cell? ⟨w.heap.size+1,0,none⟩=some (.string a5U):=by rw[Gc];exact i.aE d.aJ
 clear F7 Gc;have WL:=F (show Xp=true ↔ u.aJ=v.aJ by rw[Pd,decide_eq_true_eq]);clear Pd;have XC:=rI u.usr v.usr;obtain⟨a5S,F8⟩:=V (E u.usr);obtain⟨a5V,Gd⟩:=V (E v.usr);rw[<-F8,<-Gd]at XC;obtain⟨Xq,Pe⟩:=V (decide (u.usr=v.usr));rw[<-Pe]at XC;have b1I:W.cell? ⟨w.heap.size,1,none⟩=some (.string a5S):=by rw[F8];exact g.aE ET.usr
 have b1N:W.cell? ⟨w.heap.size+1,1,none⟩=some (.string a5V):=by rw[Gd];exact i.aE d.usr
 clear F8 Gd;have WM:=F (show Xq=true ↔ u.usr=v.usr by rw[Pe,decide_eq_true_eq]);clear Pe;have XA:=rI u.ib v.ib;obtain⟨a5Q,F6⟩:=V (E u.ib);obtain⟨a5T,Gb⟩:=V (E v.ib);rw[<-F6,<-Gb]at XA;obtain⟨Xo,Pc⟩:=V (decide (u.ib=v.ib));rw[<-Pc]at XA;have b1G:W.cell? ⟨w.heap.size,2,none⟩=some (.string a5Q):=by rw[F6];exact g.aE ET.ib
 have b1L:W.cell? ⟨w.heap.size+1,2,none⟩=some (.string a5T):=by rw[Gb];exact i.aE d.ib
 clear F6 Gb;have WK:=F (show Xo=true ↔ u.ib=v.ib by rw[Pc,decide_eq_true_eq]);clear Pc
 obtain⟨N4,OU⟩:∃ b:Bool,(b=true ↔ u.host=v.host):=by
  by_cases h:u.host=v.host
  ·exact⟨true,λ_=>h,λ_=>rfl⟩
  exact⟨false,λh=>(by cases h),λI=>absurd I h⟩
 have N:=F OU;clear OU;obtain⟨zw,pW⟩:=V (u.bz);obtain⟨zx,pX⟩:=V (v.bz);obtain⟨rT,sd⟩:=V (decide (u.bz=v.bz));have a1H:(zw==zx)=rT:=by rw[pW,pX,sd];first|exact iM _ _|rfl
 have a1F:W.cell? ⟨w.heap.size,14,none⟩=some (.bool zw):=by rw[pW];exact g.aE ET.bz
 have a1G:W.cell? ⟨w.heap.size+1,14,none⟩=some (.bool zx):=by rw[pX];exact i.aE d.bz
 clear pW pX;have xK:=F (show rT=true ↔ u.bz=v.bz by rw[sd,decide_eq_true_eq]);clear sd;obtain⟨SN,Aj⟩:=V (u.port);obtain⟨SR,Ao⟩:=V (v.port);obtain⟨EY,FH⟩:=V (decide (u.port=v.port));have a8R:(SN==SR)=EY:=by rw[Aj,Ao,FH];first|exact iM _ _|rfl
 have a8H:W.cell? ⟨w.heap.size,15,none⟩=some (.int .i64 SN):=by rw[Aj];exact g.aE ET.port
 have a8N:W.cell? ⟨w.heap.size+1,15,none⟩=some (.int .i64 SR):=by rw[Ao];exact i.aE d.port
 clear Aj Ao;have Nq:=F (show EY=true ↔ u.port=v.port by rw[FH,decide_eq_true_eq]);clear FH;obtain⟨Yf,s⟩:=V (u.opq);obtain⟨Yg,Ga⟩:=V (v.opq);obtain⟨NV,Pb⟩:=V (decide (u.opq=v.opq));have b1P:(Yf==Yg)=NV:=by rw[s,Ga,Pb];first|exact iM _ _|rfl
 have b1F:W.cell? ⟨w.heap.size,16,none⟩=some (.bool Yf):=by rw[s];exact g.aE ET.opq
 have b1K:W.cell? ⟨w.heap.size+1,16,none⟩=some (.bool Yg):=by rw[Ga];exact i.aE d.opq
 clear s Ga;have WJ:=F (show NV=true ↔ u.opq=v.opq by rw[Pb,decide_eq_true_eq]);clear Pb;have OT:=rI u.flat v.flat;obtain⟨a1c,Ag⟩:=V (E u.flat);obtain⟨a1d,Al⟩:=V (E v.flat);rw[<-Ag,<-Al]at OT;obtain⟨NU,FD⟩:=V (decide (u.flat=v.flat));rw[<-FD]at OT;have a8D:W.cell? ⟨w.heap.size,17,none⟩=some (.string a1c):=by rw[Ag];exact g.aE ET.flat
 have a8J:W.cell? ⟨w.heap.size+1,17,none⟩=some (.string a1d):=by rw[Al];exact i.aE d.flat
 clear Ag Al;have Nl:=F (show NU=true ↔ u.flat=v.flat by rw[FD,decide_eq_true_eq]);clear FD;obtain⟨EX,FG⟩:=V (decide (u.path=v.path));have a8G:W.cell? ⟨w.heap.size,18,none⟩=some (pu):=by exact g.aE ET.path
 have a8M:W.cell? ⟨w.heap.size+1,18,none⟩=some (A):=by exact i.aE d.path
 have Np:=F (show EX=true ↔ u.path=v.path by rw[FG,decide_eq_true_eq]);have HEP:=F (show bF prog 150 #[pu,A] W (.bool EX)from by have hh:=M.o;rw[<-FG]at hh;exact hh);clear FG;obtain⟨SM,Ai⟩:=V (u.bZ);obtain⟨SQ,IC⟩:=V (v.bZ);obtain⟨EV,FF⟩:=V (decide (u.bZ=v.bZ));have a8Q:(SM==SQ)=EV:=by rw[Ai,IC,FF];first|exact iM _ _|rfl
 have YX:=F<|λw2 (c:r7 W w2)=>(show w2.cell? ⟨w.heap.size,19,none⟩=some (.bool SM)/\w2.cell? ⟨w.heap.size+1,19,none⟩=some (.bool SQ)from⟨by rw[Ai];exact(g.keep c).aE ET.bZ,by rw[IC];exact(i.keep c).aE d.bZ⟩);clear Ai IC;have Nn:=F (show EV=true ↔ u.bZ=v.bZ by rw[FF,decide_eq_true_eq]);clear FF;have T:=rI u.q v.q;obtain⟨x_q,n⟩:=V (E u.q);obtain⟨y_q,r⟩:=V (E v.q);rw[<-n,<-r]at T;obtain⟨P,z⟩:=V (decide (u.q=v.q));rw[<-z]at T;have L_q:=F<|λw2 (c:r7 W w2)=>(show w2.cell? ⟨w.heap.size,20,none⟩=some (.string x_q)/\w2.cell? ⟨w.heap.size+1,20,none⟩=some (.string y_q)from⟨by rw[n];exact(g.keep c).aE ET.q,by rw[r];exact(i.keep c).aE d.q⟩);clear n r;have L:=F (show P=true ↔ u.q=v.q by rw[z,decide_eq_true_eq]);clear z;obtain⟨SK,Ah⟩:=V (u.cg);obtain⟨SO,Am⟩:=V (v.cg);obtain⟨EU,FE⟩:=V (decide (u.cg=v.cg));have a8P:(SK==SO)=EU:=by rw[Ah,Am,FE];first|exact iM _ _|rfl
 have YW:=F<|λw2 (c:r7 W w2)=>(show w2.cell? ⟨w.heap.size,21,none⟩=some (.bool SK)/\w2.cell? ⟨w.heap.size+1,21,none⟩=some (.bool SO)from⟨by rw[Ah];exact(g.keep c).aE ET.cg,by rw[Am];exact(i.keep c).aE d.cg⟩);clear Ah Am;have Nm:=F (show EU=true ↔ u.cg=v.cg by rw[FE,decide_eq_true_eq]);clear FE;have R:=rI u.f v.f;obtain⟨x_f,l⟩:=V (E u.f);obtain⟨y_f,p⟩:=V (E v.f);rw[<-l,<-p]at R;obtain⟨t,y⟩:=V (decide (u.f=v.f));rw[<-y]at R;have L_f:=F<|λw2 (c:r7 W w2)=>(show w2.cell? ⟨w.heap.size,22,none⟩=some (.string x_f)/\w2.cell? ⟨w.heap.size+1,22,none⟩=some (.string y_f)from⟨by rw[l];exact(g.keep c).aE ET.f,by rw[p];exact(i.keep c).aE d.f⟩);clear l p;have K:=F (show t=true ↔ u.f=v.f by rw[y,decide_eq_true_eq]);clear y;clear ET d g i hh kk U hW h k hB hC hl hm D J
 have JV:=F (show u=v ↔ (Xp&&Xq&&Xo&&N4&&rT&&EY&&NV&&NU&&EX&&EV&&P&&EU&&t)=true from by
  simp only[f8,WL.o,WM.o,WK.o,N.o,xK.o,Nq.o,WJ.o,Nl.o,Np.o,Nn.o,L.o,Nm.o,K.o];constructor
  ·intro h;rw[h];simp
  rintro⟨⟨⟨⟨⟨⟨⟨⟨⟨⟨⟨⟨Y,I⟩,h3⟩,h4⟩,h5⟩,h6⟩,h7⟩,h8⟩,h9⟩,h10⟩,h11⟩,h12⟩,h13⟩;exact a06 Y I h3 h4 h5 h6 h7 h8 h9 h10 h11 h12 h13)
 clear M WL WM WK xK Nq WJ Nl Np Nn L Nm K;go_enter func98,ntmps98
 go_upto_region 1 with fail
 rw[HW.o];refine wp_region_lit ?_;simp only[List.append_eq,dE,f9]
 go_wp2_with (first|(refine b7u rfl (.tmp 25) rfl w.heap.size 3 u.host U8.o rfl R1.o ?_)|(refine b7u rfl (.tmp 27) rfl (w.heap.size+1) 3 v.host V8.o rfl R2.o ?_)|(refine a8I rfl (.tmp 26) (.tmp 28) rfl u.host v.host U8.o V8.o N4 N.o rfl rfl ?_)|(go_at_call 150;refine HEP.o.m ?_;rintro e w2 ⟨rfl,c⟩;have B2:=F<|dw HB.o c;obtain⟨a8F,a8L⟩:=YX.o _ c;obtain⟨c_q,d_q⟩:=L_q.o _ c;obtain⟨a8E,a8K⟩:=YW.o _ c;obtain⟨c_f,d_f⟩:=L_f.o _ c;clear c))
 all_goals first
  |(refine DC (q:=t) r5 r5 (by first|exact B2.o|exact HB.o) ?_;rw[JV.o];clear JV;simp_all)
  |(refine DC (q:=false) r5 r5 (by first|exact B2.o|exact HB.o) ?_;rw[JV.o];clear JV;simp_all)

theorem Db:∀ l:List O,l.length<=(cH l).length
 | []=>by simp[cH]
 |p::r=>by
  have:=Db r;unfold cH;simp only[ae,cz,aO];omega
theorem om{aJ:O}{l:List O}:(cH (cE aJ l)).length<=(cH l).length:=by
 match l with
 | []=>simp[cE,cH]
 | [x] =>
  show(cH (if aJ=[102,105,108,101]/\jN x=true then [x]else [])).length<=_
  split
  ·exact ag _
  simp[cH]
 |x::y::r =>
  show(cH ((x::y::r).dropLast)).length<=_;have e:=ip (l:=x::y::r) Oc;have h:=congrArg (λl=>(cH l).length) e
  try dsimp only at h
  rw[jc]at h;simp only[ae]at h;omega
theorem DE{aJ:O}{out:List O}{p:O}{last:Bool}:(cH (kT aJ out p last)).length<=(cH out).length+(3*p.length+1):=by
 have hs:=om (aJ:=aJ) (l:=out);have hp:=gv 4 p;unfold kT
 split
 ·split
  ·rw[jc];simp only[ae,cz,aO];omega
  omega
 split
 ·split
  ·rw[jc];simp only[ae,cz,aO];omega
  omega
 split
 ·next h =>
  have I:p.length=2:=by
   have d:=h.2.2
   match p with
   | []=>cases d
   | [a]=>cases d
   | [a,b]=>rfl
   |a::b::c::r=>cases d
  rw[jc];simp only[ae,cz,aO,aD];omega
 rw[jc];simp only[ae,cz,aO];omega
def ud:List O->Nat
 | []=>0
 |p::r=>(p.length+1)+ud r
theorem y4{aJ:O}:∀ (c out:List O),(cH (kH aJ out c)).length<=(cH out).length+3*ud c
 | [],out=>by simp[kH]
 | [p],out=>by
  have:=DE (aJ:=aJ) (out:=out) (p:=p) (last:=true);show(cH (kT aJ out p true)).length<=_;unfold ud ud;omega
 |p::q::r,out=>by
  have Y:=DE (aJ:=aJ) (out:=out) (p:=p) (last:=false);have I:=y4 (aJ:=aJ) (q::r) (kT aJ out p false);show(cH (kH aJ (kT aJ out p false) (q::r))).length<=_;have e:ud (p::q::r)=(p.length+1)+ud (q::r):=rfl;omega
theorem DH(sp:Bool):∀ s:O,ud (gE sp s)=s.length+1
 | []=>rfl
 |c::t=>by
  have f:=DH sp t;unfold gE
  split
  ·show(0+1)+ud (gE sp t)=_
   rw[f,cz];omega
  obtain⟨p,d,e⟩:=uD sp t;rw[e]at f ⊢;have e1:ud (p::d)=(p.length+1)+ud d:=rfl;have g:ud ((c::p)::d)=((c::p).length+1)+ud d:=rfl;rw[g,cz,cz];omega
theorem iF(aJ:O)(path:List O)(s:O):(cH (da aJ path s)).length<=(cH path).length+3*s.length+3:=by
 have h:=y4 (aJ:=aJ) (gE (eU aJ) s) path;rw[DH]at h;unfold da;omega
theorem we(aJ s:O):(cH (gW aJ s)).length<=3*s.length+3:=by
 unfold gW;have Y:=iF aJ [] s;have I:=iF aJ [] (s.drop 1);have e:(cH ([]:List O)).length=0:=rfl;rw[e]at Y I
 split
 ·rw[aj]at I;omega
 omega
theorem QC(c:Prop) [Decidable c] (l:List O):(cH (if c then l.take 1 else [])).length<=(cH l).length:=by
 split
 ·cases l with
  |nil=>simp[cH]
  |cons x r =>
   show(cH [x]).length<=_;simp[cH]
 simp[cH]
structure Ul (L M:Nat) (u:Url):Prop where
 aJ:u.aJ.length<=L
 usr:u.usr.length<=3*L
 ib:u.ib.length<=3*L
 host:(∃n sp,n.length<=L/\fm n sp=some u.host)\/u.host.name=[]
 flat:u.flat.length<=3*L+3
 path:(cH u.path).length<=M
 q:u.q.length<=3*L
 f:u.f.length<=3*L
structure Pl (L:Nat) (p:kW):Prop where
 aJ:p.aJ.length<=L
 rest:p.rest.length<=L
 q:p.q.length<=L
 f:p.f.length<=L
theorem Rp(s:O):Pl s.length (fw s):=by
 have a:=fD 35 s;have b:=fD 63 (bQ 35 s).1;have c:=fD 58 (bQ 63 (bQ 35 s).1).1;unfold fw;dsimp only
 split
 ·exact⟨by rw[ay];omega,by dsimp only;omega,by dsimp only;omega,by dsimp only;omega⟩
 exact⟨aL _,by dsimp only;omega,by dsimp only;omega,by dsimp only;omega⟩
theorem b73(s:O):(eN s).length<=s.length:=by
 have Y:(eN s).length<=(trimF s).length:=dO _ _;have I:(trimF s).length<=s.length:=sN s;omega
theorem Jx{s:O}{L:Nat}(h:s.length<=L):Pl L (fw (eN s)):=by
 have Y:=Rp (eN s);have I:=b73 s;exact⟨by have:=Y.aJ;omega,by have:=Y.rest;omega,by have:=Y.q;omega,by have:=Y.f;omega⟩
section
variable {L M:Nat} {b u:Url} {p:kW}
theorem rA(hp:Pl L p){aJ:O}(c:aJ.length<=L):Ul L M (dp aJ p):=by
 refine⟨c,aL _,aL _,.inr rfl,aL _,aL _,?_,?_⟩
 ·have Y:=gv (if eU aJ=true then 3 else 2) p.q
  have I:=hp.q;show(dD (if eU aJ=true then 3 else 2) p.q).length<=_;omega
 have Y:=gv 1 p.f;have I:=hp.f;show(dD 1 p.f).length<=_;omega
theorem Ba{u0:Url}{s:O}(h0:Ul L M u0)(hs:s.length<=L)(hM:3*L+3<=M)(h:jS u0 s=some u):Ul L M u:=by
 unfold jS at h;dsimp only at h;have hc:=nK (eU u0.aJ) s;cases c:kr u0.aJ (dU (eU u0.aJ) s).1 with
 |none=>rw[c]at h;cases h
 |some a =>
  rw[c]at h;injection h with h
  obtain⟨Y,I,n,hn,hh⟩:=NT c;rw[<-h];refine⟨h0.aJ,by dsimp only;omega,by dsimp only;omega,.inl ⟨n,_,M0,hh⟩,h0.flat,?_,h0.q,h0.f⟩;dsimp only
  split
  ·have:=we u0.aJ (dU (eU u0.aJ) s).2
   omega
  exact h0.path
theorem Sy{u0:Url}{s:O}(h0:Ul L M u0)(hs:s.length<=L)(hM:3*L+3<=M)(h:iy u0 s=some u):Ul L M u:=by
 unfold iy at h;dsimp only at h;have hc:=nK true s;have hp2:=we u0.aJ (dU true s).2;have d:=iF u0.aJ [] s;have e:(cH ([]:List O)).length=0:=rfl;rw[e]at d
 split at h
 ·injection h with h
  rw[<-h];exact⟨h0.aJ,h0.usr,h0.ib,h0.host,h0.flat,by dsimp only;omega,h0.q,h0.f⟩
 split at h
 ·injection h with h
  rw[<-h];exact⟨h0.aJ,h0.usr,h0.ib,h0.host,h0.flat,by dsimp only;omega,h0.q,h0.f⟩
 cases c:fm (dU true s).1 true with
 |none=>rw[c]at h;cases h
 |some g =>
  rw[c]at h;injection h with h
  rw[<-h];refine⟨h0.aJ,h0.usr,h0.ib,?_,h0.flat,by dsimp only;omega,h0.q,h0.f⟩;dsimp only
  split
  ·exact h0.host
  exact .inl ⟨_,_,M0,c⟩
theorem b7J(h0:Ul L M u)(U:Ul L M b):Ul L M (fM u b):=by
 unfold fM
 split
 ·exact⟨h0.aJ,h0.usr,h0.ib,h0.host,h0.flat,U.path,h0.q,h0.f⟩
 exact⟨h0.aJ,h0.usr,h0.ib,h0.host,h0.flat,U.path,U.q,h0.f⟩
theorem Ul.more{c:Nat}(h:Ul L M u)(d:M<=c):Ul L c u:=⟨h.aJ,h.usr,h.ib,h.host,h.flat,am h.path d,h.q,h.f⟩
theorem pf(h0:Ul L M u)(l:List O){c:Nat}(d:(cH l).length<=c):Ul L c {u with path:=l}:=⟨h0.aJ,h0.usr,h0.ib,h0.host,h0.flat,d,h0.q,h0.f⟩
theorem Wz(hp:Pl L p)(i:4<=L)(U:Ul L M b)(h:lG b p=some u):Ul L (M+3*L+3) u:=by
 have h0:Ul L (M+3*L+3) (dp aR p):=rA hp i;have hr:=hp.rest;have d:=U.path;rw[vp]at h
 have I:Ul L (M+3*L+3) (Nb b p):=by
  unfold Nb
  split
  ·exact⟨h0.aJ,h0.usr,h0.ib,U.host,h0.flat,h0.path,h0.q,h0.f⟩
  exact⟨h0.aJ,h0.usr,h0.ib,.inr rfl,h0.flat,h0.path,h0.q,h0.f⟩
 split at h
 ·exact Sy (u0:={dp aR p with host:={H0 with kind:=1}}) ⟨h0.aJ,h0.usr,h0.ib,.inr rfl,h0.flat,h0.path,h0.q,h0.f⟩ (by rw[aj];omega) M0 h
 split at h
 ·injection h with h
  rw[<-h];refine pf I _ ?_;have c:=iF aR (if b.aJ=aR then yq b (p.rest.drop 1)else []) (p.rest.drop 1)
  have g:(cH (if b.aJ=aR then yq b (p.rest.drop 1)else [])).length<=M:=by
   split
   ·exact am (QC _ _) d
   simp[cH]
  rw[aj]at c;omega
 split at h
 ·injection h with h
  rw[<-h];exact b7J I (U.more M0)
 split at h
 ·injection h with h
  rw[<-h];refine pf I _ ?_;have c:=iF aR (cE aR b.path) p.rest;have g:=om (aJ:=aR) (l:=b.path);omega
 injection h with h
 rw[<-h];refine pf I _ ?_;have c:=iF aR [] p.rest;have e:(cH ([]:List O)).length=0:=rfl;omega
theorem Sz(hp:Pl L p)(h:gi p=some u):Ul L (3*L+3) u:=by
 have h0:Ul L (3*L+3) (dp p.aJ p):=rA hp hp.aJ;have c:=hp.rest;unfold gi at h;dsimp only at h
 split at h
 ·next r he =>
  rw[he]at c;simp only[cz]at c;exact Ba h0 M0 (ag _) h
 ·next r _ he =>
  rw[he]at c;simp only[cz]at c;injection h with h
  rw[<-h];refine pf h0 _ ?_;have d:=iF p.aJ [] r;have e:(cH ([]:List O)).length=0:=rfl;show(cH (da p.aJ [] r)).length<=_;omega
 injection h with h
 rw[<-h];refine⟨h0.aJ,h0.usr,h0.ib,h0.host,?_,h0.path,h0.q,h0.f⟩;have d:=gv 0 p.rest;dsimp only
 split
 ·simp only[ae,fY,cz,aO];omega
 omega
theorem b8V(hp:Pl L p)(U:Ul L M b)(h:k5 b p=some u):Ul L M u:=by
 unfold k5 at h
 split at h
 ·cases h
 injection h with h
 rw[<-h];refine⟨U.aJ,U.usr,U.ib,U.host,U.flat,U.path,U.q,?_⟩;have Y:=gv 1 p.f;have I:=hp.f;show(dD 1 p.f).length<=_;omega
theorem a03(hp:Pl L p)(U:Ul L M b)(h:ri b p=some u):Ul L (M+3*L+3) u:=by
 have h0:Ul L (M+3*L+3) (dp b.aJ p):=rA hp U.aJ;have hr:=hp.rest;have hbp:=U.path;have hA:Ul L (M+3*L+3) (takeA (dp b.aJ p) b):=⟨h0.aJ,U.usr,U.ib,U.host,h0.flat,h0.path,h0.q,h0.f⟩;unfold ri at h;dsimp only at h
 split at h
 ·exact Ba h0 (by rw[aj];omega) M0 h
 split at h
 ·exact Ba h0 (by rw[aj];omega) M0 h
 split at h
 ·injection h with h
  rw[<-h];refine pf hA _ ?_;have c:=iF b.aJ [] (p.rest.drop 1);have e:(cH ([]:List O)).length=0:=rfl;rw[aj]at c;omega
 split at h
 ·injection h with h
  rw[<-h];exact b7J hA (U.more M0)
 injection h with h
 rw[<-h];refine pf hA _ ?_;have c:=iF b.aJ (cE b.aJ b.path) p.rest;have h4:=om (aJ:=b.aJ) (l:=b.path);omega
theorem JM(hp:Pl L p)(c:4<=L)(U:Ul L M b)(h:eL b p=some u):Ul L (M+3*L+3) u:=by
 unfold eL at h
 split at h
 ·exact Wz hp c U h
 split at h
 ·have:=hp.rest
  exact Ba (rA hp hp.aJ) (by rw[aj];omega) M0 h
 split at h
 ·exact(Sz hp h).more M0
 split at h
 ·exact(b8V hp U h).more M0
 exact a03 hp U h
end
theorem a5N(L:Nat):Ul L 0 U0:=⟨aL _,aL _,aL _,.inr rfl,aL _,aL _,aL _,aL _⟩
theorem oG{s:O}{u:Url}{L:Nat}(d:s.length<=L)(c:4<=L)(h:eF s=some u):Ul L (3*L+3) u:=by
 unfold eF at h
 split at h
 ·have:=JM (M:=0) (Jx d) c (a5N L) h
  rw[bM]at this;exact this
 cases h
theorem SD{b u:Url}{s:O}{L M:Nat}(d:s.length<=L)(c:4<=L)(U:Ul L M b)(h:kF b s=some u):Ul L (M+3*L+3) u:=JM (Jx d) c U h
theorem a1I{l n:O}(hl:l.length<=1000)(hd:nw (nJ l)=some n):n.length<=102400000:=by
 have Y:=rf _ l (ag _);have I:=rx (signs (nJ l));have h3:=lR _ (nJ l) (ag _);have h4:=Cg hd;omega
theorem a1J{s:O}{sp:Bool}{h:gF}(hh:fm s sp=some h)(c:s.length<=1000):h.name.length<=102400000:=by
 have key:sS s sp h->h.name.length<=102400000:=by
  intro e;cases e with
  |six a h8 ha _=>exact aL _
  |name n e _ hd hn U he=>exact a1I c hd
  |four n e _ h=>exact aL _
  |empty e h=>exact aL _
  |a0z e _ h U =>
   have:=VR s;show(dD 0 s).length<=_;omega
 exact key (hkind hh)
theorem a6V{L M:Nat}{u:Url}(h:Ul L M u)(hL:L<=1000)(hM:M<=1024000000):nc u:=by
 refine⟨by have:=h.aJ;omega,by have:=h.usr;omega,by have:=h.ib;omega,?_,by have:=h.flat;omega,by have:=h.path;omega,by have:=h.q;omega,by have:=h.f;omega⟩;rcases h.host with⟨n,sp,hn,hh⟩|h
 ·exact a1J hh M0
 rw[h];exact aL _
theorem qQ{u:Url}(g:Good u):gG u:=by
 cases g.body with
 |opq Y I c h4 d=>exact⟨by rw[c];exact WN,by rw[d.n];omega⟩
 |none Y I c d=>exact⟨by rw[c];exact WN,by rw[d.n];omega⟩
 |file Y f c d hp =>
  refine⟨?_,by rw[d.n];omega⟩;rcases c with c|⟨n,_,c,_⟩
  ·rw[c];exact⟨Oc,by simp[H0],rfl,xV⟩
  exact od (hkind c)
 |asked Y f e hp =>
  obtain⟨n,hh,_⟩:=e.h;refine⟨od (hkind hh),?_⟩;rcases e.q with⟨_,h⟩|⟨_,I,c,_⟩
  ·have h:u.port=0:=h
   rw[h];omega
  have I:0<=u.port:=I;have c:u.port<=65535:=c;omega
theorem Sx{L M:Nat}{u:Url}(h:Ul L M u)(hM:M<=307200000):u.path.length<=307200000/\∀ x∈u.path,List.length x<=1024000000:=by
 have Y:=h.path;have I:=Db u.path;refine⟨M0,λx X=>?_⟩
 have key:∀ l:List O,x∈l->x.length<=(cH l).length:=by
  intro l
  induction l with
  |nil=>intro h;cases h
  |cons p r c =>
   intro h;unfold cH;simp only[ae];rcases aK.mp h with rfl|h
   ·omega
   have:=c h;omega
 have:=key _ X;omega

theorem sB{w:H}{base e:Nat}{v:Z}{l:List O}(h:w.ownsRow base e 1 v l.length (Strs l)):w.ownsRow base e 1 v (Strs l).length (Strs l):=by
 rw[show(Strs l).length=l.length from ay _];exact h
structure zK (u:Url):Prop where
 ok:gG u
 sm:nc u
 E:u.path.length<=307200000/\∀ x∈u.path,List.length x<=1024000000
theorem zK.six{u:Url}(h:zK u):u.host.six.length=8:=h.ok.h.l
theorem zK.b{u:Url}(h:zK u):Bs u.path:=⟨h.E.1,h.E.2⟩
theorem b8W(u:Url)(A:Z)(w:H)(h:zK u)(d:Sl w.heap.size w A (u.path.map S))(c:NE w):bF prog 11 #[.agg (ai A u),.bool true] w (S (dA u true)) :=
 rr u (ai A u) A true w (lV A h.ok) d h.sm c
theorem a2s{s:O}{u:Url}(d:s.length<=1000)(h:eF s=some u):zK u:=by
 have c:=oG d M0 h;exact⟨qQ (kG h),a6V c (ag _) M0,Sx c M0⟩

def jP:Url:={U0 with aJ:=[104,116,116,112],host:={H0 with kind:=2,name:=[104]},path:=[[97],[98]]}
