import Derived.Test.YtagfilhbpnjhkaaGreatDoorFGWlkT
set_option maxRecDepth 10000
set_option maxHeartbeats 0
namespace Go.Proofs.Q
open Tryz Go.RowKit
theorem yj(s:O):(eN s).length<=s.length:=am (zi _) (sN _)
theorem zd(s:O):(fw s).rest.length<=s.length/\(fw s).q.length<=s.length/\(fw s).f.length<=s.length:=by
 have a:=fD 35 s;have b:=fD 63 (bQ 35 s).1;have c:=fD 58 (bQ 63 (bQ 35 s).1).1;unfold fw;dsimp only
 split <;>(dsimp only;omega)
theorem a47(p:kW):(aW p).all (·.oneCell')=true:=all_oneCell_toArray (cs:=(aW p).toList) Ju
theorem xf{f:Func}{k m:Nat}(h:f.results=#[.cell k 34,.tmp m]){tmps:Array Z}{w0 d:H}{b:Nat}{A:Z}{u:Url}{q:Bool}{Post:Ending->H->Prop}(e:u.host.six.length=8)(j:tmps.getD k undef=.pointer (some ⟨b,0,none⟩))(hm:tmps.getD m undef=.bool q)
  (i:OB w0 b 34 (ai A u) d) (g:Post (.returned (.tuple #[.agg (ai A u),.bool q])) d) :
  bodyPost prog f Post Exit.ret {tmps:=tmps,defers:=[]} d:=by
 have a:tmps[k]?.getD undef=.pointer (some ⟨b,0,none⟩):=by simpa using j
 have c:tmps[m]?.getD undef=.bool q:=by simpa using hm
 have l:=i.load (P:=prog) 34 _ underlying34 rfl (by rw[kJ e];exact iJ);refine bodyPost_ret (v:=.tuple #[.agg (ai A u),.bool q]) ?_ rfl g;simp[results,h,asAddr,a,c,l]
theorem xg(s:O)(w:H)(hs:s.length<=1048576)(B:Env w):Calls prog 17 #[.string (E s)] w (uK w (eF s)):=by
 have D:=yj s;obtain⟨p,hp⟩:=V (fw (eN s));have r:=zd (eN s);rw[<-hp]at r;have l:∀u,eL U0 p=some u->u.host.six.length=8:=λu h=>ot (b:=U0) rfl h;obtain⟨c,C⟩:=V (E (eN s));obtain⟨xl,ji,K⟩:=cZ (show ∀W,bF prog 44 #[.string (E s)] W (.string c)from λW=>by rw[C];exact yi s W M0) (show ∀W,r7 w W->bF prog 43 #[.string c] W (.agg (aW p))from λW U=>by rw[C,hp];exact za (eN s) W M0 (B.below U)) (λW (U:r7 w W)=>zq U0 aI p W rfl Sl.nil ⟨by simp[U0],by simp[U0]⟩ (Yb M0) M0 M0 (B.below U));obtain⟨R,n⟩:=V (eF s);rw[<-n];unfold eF at n;rw[<-hp]at n;obtain⟨z,hz⟩:=V (E s);rw[<-hz]at xl⊢;have L:=F n;have Yv:=F l;clear n hz C hp r D hs B l;go_enter func17,ntmps17
 go_upto_region 1 with(refine aM rfl 34 rfl _ _ (eD _) ?_)
 have N:=F<|OB.fresh w 34 (ai aI U0);generalize w.alloc (.cells (ai aI U0) 34)=w1 at N⊢
 go_upto_region 2 with(first|(go_at_call 44;refine(xl.o _).k λw2 U=>?_;have M:=F<|N.o.below U.o;clear U)|(go_at_call 43;refine(ji.o _ M.o.bL).k λw3 U=>?_;have I3:=F<|M.o.below U.o;clear U)|(refine aM rfl 91 rfl _ _ (a27 _) ?_)|(refine jG rfl 91 4 7 rfl (aW p) (aW P0) mO rfl (a47 p) rfl rfl rfl ?_;intro w4 T U;have y:=F T;have d:=F<|I3.o.below U;clear T U))
 have d0:=y.o.aE (j:=0) (v:=.bool p.gR) rfl;cases g:p.gR with
 |false =>
  rw[g]at d0;have k:=F (show R=none by rw[L.o,gc (by simp[g])]);clear g
  go_wp2_with(refine fV rfl 2 11 rfl w w.heap.size d.o aI U0 rfl rfl rfl rfl ?_;intro w5 i5 _;have f:=F i5;clear i5)
  rw[k.o];exact xf (u:=U0) (q:=false) results17 rfl rfl rfl f.o ⟨rfl,f.o.bL⟩
 |true =>
  rw[g]at d0;have xo:=F (show R=eL U0 p by rw[L.o,ge g]);clear g;cases a:eL U0 p with
  |none =>
   have k:=F (show R=none by rw[xo.o,a]);have J:=F<|λW U=>(show bF prog 45 #[.agg (ai aI U0),.agg (aW p)] W (.tuple #[.agg (ai aI U0),.bool false])from by have h:=K.o W U;rw[a]at h;exact h);clear a
   go_wp2_with(first|(refine kB rfl 4 rfl w3.heap.size p y.o rfl ?_)|(go_at_call 45;refine(J.o _ d.o.bL).k λw5 U=>?_;have f:=F<|d.o.below U.o;clear U)|(refine fV rfl 2 15 rfl w w.heap.size f.o aI U0 rfl rfl rfl rfl ?_;intro w6 x _;have i:=F x;clear x))
   rw[k.o];exact xf (u:=U0) (q:=false) results17 rfl rfl rfl i.o ⟨rfl,i.o.bL⟩
  |some u =>
   obtain⟨k,Q,J⟩:=cZ (show R=some u by rw[xo.o,a]) (Yv.o u a) (λW U=>(show Calls prog 45 #[.agg (ai aI U0),.agg (aW p)] W λe w'=>∃A,e=.returned (.tuple #[.agg (ai A u),.bool true])/\w'.ownsRow W.heap.size 9 1 A u.path.length (Strs u.path)/\r7 W w' from by have h:=K.o W U;rw[a]at h;exact h));clear a
   go_wp2_with(first|(refine kB rfl 4 rfl w3.heap.size p y.o rfl ?_)|(go_at_call 45;refine(J.o _ d.o.bL).m ?_;rintro e w5⟨A,rfl,o5,U⟩;have f:=F<|d.o.below U;have P:=F<|ea o5 (show w.heap.size+1<=_ from d.o.lt);clear U o5)|(refine fV rfl 2 15 rfl w w.heap.size f.o A u Q.o (bm P.o) rfl rfl ?_;intro w6 x t6;have i:=F x;have O6:=F<|ea (t6.row P.o (bV _)) (gQ _);clear x t6))
   rw[k.o];exact xf (u:=u) (q:=true) results17 Q.o rfl rfl i.o ⟨A,rfl,O6.o,i.o.bL⟩
theorem a5H(w:H)(bv:Z)(u:Url):∃W,(w.alloc (.cells (ai bv u) 34)).alloc (.cells (ai aI U0) 34)=W/\CB W w.heap.size 34 (ai bv u)/\OB w (w.heap.size+1) 34 (ai aI U0) W:=by
 have X:=CB.new w 34 (ai bv u);have U:=(gT w.heap.size w).alloc (ag _) (.cells (ai bv u) 34);obtain⟨d,c⟩:=V (w.alloc (.cells (ai bv u) 34));have e:d.heap.size=w.heap.size+1:=by rw[c];simp
 rw[<-c]at X U⊢;have hy:=CB.new d 34 (ai aI U0);have a:=(gT d.heap.size d).alloc (ag _) (.cells (ai aI U0) 34);rw[e]at hy;exact⟨_,rfl,X.keep a,OB.of hy (gQ _) (dw U a)⟩
theorem L4(a:Url)(bv:Z)(s:O)(w:H)(J:a.host.six.length=8)(y:Sl w.heap.size w bv (a.path.map S))(x:Bs a.path)(hs:s.length<=1048576)(N:Env w):Calls prog 85 #[.agg (ai bv a),.string (E s)] w (uK w (kF a s)):=by
 have Q:=yj s;obtain⟨p,hp⟩:=V (fw (eN s));have B:=zd (eN s);rw[<-hp]at B;have Yv:=F<|λu (h:eL a p=some u)=>ot J h;obtain⟨c,P⟩:=V (E (eN s));obtain⟨R,ji,Be,H8⟩:=dT (show ∀W,bF prog 44 #[.string (E s)] W (.string c)from λW=>by rw[P];exact yi s W M0) (show ∀W,r7 w W->bF prog 43 #[.string c] W (.agg (aW p))from λW U=>by rw[P,hp];exact za (eN s) W M0 (N.below U)) (λW (U:r7 w W)=>zq a bv p W J ((y.below U).more U.size) x (Yb M0) M0 M0 (N.below U)) J;show Calls _ _ _ _ (uK w (eL a (fw (eN s))));rw[<-hp];generalize E s=z at R⊢;clear P hp B Q hs N J y x;obtain⟨W2,C,k1,k2⟩:=a5H w bv a;obtain⟨K1,K2,n⟩:=cZ k1 k2 C;clear k1 k2 C;have l:=F (show(prog.info? 34).map (·.size)=some (ai bv a).size by rw[kJ H8.o];exact iJ);cases v:eL a p with
 |none =>
  have T:=F<|λW U=>(show bF prog 45 #[.agg (ai bv a),.agg (aW p)] W (.tuple #[.agg (ai aI U0),.bool false])from by have h:=Be.o W U;rw[v]at h;exact h);clear v;go_enter func85,ntmps85
  go_upto_region 1 with(refine aM rfl 34 rfl _ _ (eD _) ?_)
  rw[n.o];have d:=F<|K1.o.keep (bG (bg _));have L:=F<|K2.o.below (bG (bg _));refine wp_region_held_drew (S:=λW=>CB W w.heap.size 34 (ai bv a)) Rz (by with_reducible first|exact j.o|exact i.o|exact g.o|exact f.o|exact d.o) (λhHeld=>?_);refine e_l 0 rfl (λ_ hS=>je 34 2 rfl w.heap.size (ai bv a) _ underlying34 rfl l.o rfl hS) ?_
  refine ek 1 ?_;refine rn 2 Rz rfl r5 (λK hK=>?_)
  go_simp
  refine(R.o _).k λw2 U=>?_;have f:=F<|d.o.keep U.o;have r:=F<|L.o.below U.o;clear U;refine hK.out _ _ f.o (λhHeld=>?_);clear hK K;refine rn 3 Rz rfl r5 (λK hK=>?_)
  go_simp
  refine(ji.o _ r.o.bL).k λw3 U=>?_;have g:=F<|f.o.keep U.o;have k:=F<|r.o.below U.o;clear U;refine hK.out _ _ g.o (λhHeld=>?_);clear hK K;refine rn 4 Rz rfl r5 (λK hK=>?_)
  go_simp
  refine(T.o _ k.o.bL).k λw4 U=>?_;have i:=F<|g.o.keep U.o;have M:=F<|k.o.below U.o;clear U;refine hK.out _ _ i.o (λhHeld=>?_);clear hK K;refine ek 5 ?_;refine ek 6 ?_;refine rn 7 Rz rfl r5 (λK hK=>?_);refine j5 34 4 11 rfl w (w.heap.size+1) 34 (ai aI U0) M.o 0 (cu aI U0) rfl rfl (ag _) iJ (xe rfl) (ai aI U0) (rz rfl rfl) ?_;intro w5 i5 t5;have t:=F i5;have j:=F<|t5.cb i.o (cO (bV _));clear i5 t5;refine hK.out _ _ j.o (λhHeld=>?_);clear hK K
  try simp only[Act.put]
  refine ek 8 ?_;refine wpAnyH_done Rz ?_ _;go_wp2_with fail;exact xf (u:=U0) (q:=false) results85 rfl rfl rfl t.o ⟨rfl,t.o.bL⟩
 |some u =>
  have D:=F<|Yv.o u v;have T:=F<|λW U=>(show Calls prog 45 #[.agg (ai bv a),.agg (aW p)] W λe w'=>∃A,e=.returned (.tuple #[.agg (ai A u),.bool true])/\w'.ownsRow W.heap.size 9 1 A u.path.length (Strs u.path)/\r7 W w' from by have h:=Be.o W U;rw[v]at h;exact h);clear v;go_enter func85,ntmps85
  go_upto_region 1 with(refine aM rfl 34 rfl _ _ (eD _) ?_)
  rw[n.o];have d:=F<|K1.o.keep (bG (bg _));have L:=F<|K2.o.below (bG (bg _));refine wp_region_held_drew (S:=λW=>CB W w.heap.size 34 (ai bv a)) Rz (by with_reducible first|exact j.o|exact i.o|exact g.o|exact f.o|exact d.o) (λhHeld=>?_);refine e_l 0 rfl (λ_ hS=>je 34 2 rfl w.heap.size (ai bv a) _ underlying34 rfl l.o rfl hS) ?_
  refine ek 1 ?_;refine rn 2 Rz rfl r5 (λK hK=>?_)
  go_simp
  refine(R.o _).k λw2 U=>?_;have f:=F<|d.o.keep U.o;have r:=F<|L.o.below U.o;clear U;refine hK.out _ _ f.o (λhHeld=>?_);clear hK K;refine rn 3 Rz rfl r5 (λK hK=>?_)
  go_simp
  refine(ji.o _ r.o.bL).k λw3 U=>?_;have g:=F<|f.o.keep U.o;have k:=F<|r.o.below U.o;clear U;refine hK.out _ _ g.o (λhHeld=>?_);clear hK K;refine rn 4 Rz rfl r5 (λK hK=>?_)
  go_simp
  refine(T.o _ k.o.bL).m ?_;rintro e w4⟨A,rfl,o4,U⟩;obtain⟨i,M,O4⟩:=cZ (g.o.keep U) (k.o.below U) (ea o4 (show w.heap.size+2<=_ from k.o.lt));clear o4;clear U;refine hK.out _ _ i.o (λhHeld=>?_);clear hK K;refine ek 5 ?_;refine ek 6 ?_;refine rn 7 Rz rfl r5 (λK hK=>?_);refine j5 34 4 11 rfl w (w.heap.size+1) 34 (ai aI U0) M.o 0 (cu A u) rfl rfl (by rw[oF D.o];exact bW rfl) (by rw[oF D.o];exact iJ) (xe (bm O4.o)) (ai A u) (rz rfl D.o) ?_;intro w5 i5 t5;obtain⟨t,O5,j⟩:=cZ i5 (ea (t5.row O4.o (bV _)) (Nat.le_add_right _ 2)) (t5.cb i.o (cO (bV _)));clear i5 t5;refine hK.out _ _ j.o (λhHeld=>?_);clear hK K
  try simp only[Act.put]
  refine ek 8 ?_;refine wpAnyH_done Rz ?_ _;go_wp2_with fail;exact xf (u:=u) (q:=true) results85 D.o rfl rfl t.o ⟨A,rfl,O5.o,t.o.bL⟩

theorem Wj(a b c d e g i j f h k l m n p q:Int)(D:Nat)(w:H):(Op.equalIn (D+2) 30 (.agg #[.int .u16 a,.int .u16 b,.int .u16 c,.int .u16 d,.int .u16 e,.int .u16 g,.int .u16 i,.int .u16 j]) (.agg #[.int .u16 f,.int .u16 h,.int .u16 k,.int .u16 l,.int .u16 m,.int .u16 n,.int .u16 p,.int .u16 q])).run prog w=.ok (decide ([a,b,c,d,e,g,i,j]=[f,h,k,l,m,n,p,q])) w:=by
 have hu:=underlying29;obtain⟨i8,r,s⟩:∃i,prog.info? 29=some i/\i.size=1:=⟨_,rfl,Rz⟩;have o:prog.cellsOf 29=1:=Rz;rw[run_equalIn_array w (D+1) _ _ underlying30 r,o,show List.range 8=[0,1,2,3,4,5,6,7]from rfl];simp only[Op.eqItems];clear o s r
 go_simp
 repeat' split
 all_goals simp_all
theorem Vj(h x:gF)(Q:h.six.length=8)(m:x.six.length=8)(w:H)(q:Bool)(R:q=true ↔ h=x):(binOp .eql 32 (.agg (aT h)) (.agg (aT x))).run prog w=.ok (.bool q) w:=by
 obtain⟨k,n,f,six⟩:=h;obtain⟨L,o,B,six'⟩:=x;simp only at Q m;obtain⟨a,b,c,d,e,g,i,j,rfl⟩:=eight Q;obtain⟨p,r,s,t,u,v,y,z,rfl⟩:=eight m;have hS:prog.underlying 32=some (.struct (prog.fieldsOf 32)):=Rz;have hp:prog.stoodInHeld 32=false:=Rz;have P:aT ⟨k,n,f,[a,b,c,d,e,g,i,j]⟩=#[.int .i64 k,.string (E n),.int .u32 f,.int .u16 a,.int .u16 b,.int .u16 c,.int .u16 d,.int .u16 e,.int .u16 g,.int .u16 i,.int .u16 j]:=rfl;have l:aT ⟨L,o,B,[p,r,s,t,u,v,y,z]⟩=#[.int .i64 L,.string (E o),.int .u32 B,.int .u16 p,.int .u16 r,.int .u16 s,.int .u16 t,.int .u16 u,.int .u16 v,.int .u16 y,.int .u16 z]:=rfl;have h6:=λW=>Wj a b c d e g i j p r s t u v y z 9997 W;have hn:=rI n o;obtain⟨N,D,M,C⟩:=ac (E n) (E o);rw[<-D,<-C]at hn;rw[P,l,run_eql_struct,show(10000:Nat)=9999+1 from rfl,run_equalIn_agg w 9999 32 _ _ hS hp];rw[<-D,<-C];simp only[Program.fieldsOf,underlying32];obtain⟨T,J⟩:=V (decide ([a,b,c,d,e,g,i,j]=[p,r,s,t,u,v,y,z]));rw[<-J]at h6;clear P l D C
 have K:q=(decide (k=L)&&decide (n=o)&&decide (f=B)&&T):=by
  rw[bX,R,J];simp[and_assoc]
 clear J R;subst K
 go_simp
 repeat' split
 all_goals simp_all
section
variable {ops:Array Oper} {rest:List Oper} {o:Oper} {a:Act} {w:H} {Q:Exit->Act->H->Prop}
theorem a8I(f:Region.wanted o (yielded ops a.tmps)=true)(x y:Operand)(j:o.op=.binOp .eql 32 x y 32)(h c:gF)(i:h.six.length=8)(d:c.six.length=8)(q:Bool)(l:q=true ↔ h=c)(X:a.eval x=.agg (aT h))(hy:a.eval y=.agg (aT c))
  (k:wpList prog ops Q rest (a.put o.dst (.bool q)) w):wpList prog ops Q (o::rest) a w:=by
 refine nj f (.bool q) ?_ k;have e:=Vj h c i d w q l;have g:=run_eqGuard_agg (P:=prog) w .eql 32 x y (aT h) (aT c) Rz;unfold execOp;simp only[j,X,hy,h2,io,h1,e,g]
theorem b7u(c:Region.wanted o (yielded ops a.tmps)=true)(x:Operand)(e:o.op=.load 32 x)(b k:Nat)(h:gF)(d:h.six.length=8)(X:a.eval x=.pointer (some ⟨b,k,none⟩))(f:w.rangeAt b k (aS h))
  (K:wpList prog ops Q rest (a.put o.dst (.agg (aT h))) w):wpList prog ops Q (o::rest) a w :=
 nj c (.agg (aT h)) (gU 32 x e b k (aS h) _ underlying32 rfl (by rw[jb];simp[aS,d]) X f) K
end
theorem a5J(w:H)(pu A:Z)(u v:Url):∃W,(w.alloc (.cells (ai pu u) 34)).alloc (.cells (ai A v) 34)=W/\r7 w W/\CB W w.heap.size 34 (ai pu u)/\CB W (w.heap.size+1) 34 (ai A v):=by
 have X:=CB.new w 34 (ai pu u);have U:=(gT w.heap.size w).alloc (ag _) (.cells (ai pu u) 34);obtain⟨e,d⟩:=V (w.alloc (.cells (ai pu u) 34));have f:e.heap.size=w.heap.size+1:=by rw[d];simp
 rw[<-d]at X U⊢;have hy:=CB.new e 34 (ai A v);have c:=(gT e.heap.size e).alloc (ag _) (.cells (ai A v) 34);rw[f]at hy;exact⟨_,rfl,dw U c,X.keep c,hy⟩
theorem DC{a:Act}{w c:H}{u v:Url}{q:Bool}(d:a.tmps.getD 4 undef=.bool q)(hd:a.defers=[])(U:r7 w c)(f:q=true ↔ u=v) :
  bodyPost prog f46 (λe g=>∃q,e=.returned (.bool q)/\(q=true ↔ u=v)/\r7 w g) Exit.ret a c :=
 bodyPost_ret (v:=.bool q) (by rw[<-d];exact results_tmp (fn:=f46) (t:=4) r5 _ _ _) hd ⟨q,rfl,f,U⟩
theorem RT(u v:Url)(pu A:Z)(w:H){B C:Nat}(J:u.host.six.length=8)(K:v.host.six.length=8)(h:Sl B w pu (u.path.map S))(k:Sl C w A (v.path.map S))(hB:B<=w.heap.size)(hC:C<=w.heap.size)(hl:u.path.length<=1024000000)(hm:v.path.length<=1024000000) :
  Calls prog 46 #[.agg (ai pu u),.agg (ai A v)] w λe w'=>∃q,e=.returned (.bool q)/\(q=true ↔ u=v)/\r7 w w':=by
 obtain⟨W,hW,U,i,l⟩:=a5J w pu A u v;have HW:=F hW;have HB:=F U;have hh:=h.below (U.m hB);have kk:=k.below (U.m hC);obtain⟨N,U8,V8⟩:=cZ (KP u.path v.path pu A W hh kk hl hm) J K;have ET:=ry pu u J;have d:=ry A v K;have R1:=fo (W.rangeAt w.heap.size 3 (aS u.host)) (λj x hj=>i.aE (ET.host j x hj));have R2:=fo (W.rangeAt (w.heap.size+1) 3 (aS v.host)) (λj x hj=>l.aE (d.host j x hj));have XB:=rI u.aJ v.aJ;obtain⟨a5R,F7,a5U,Gc⟩:=ac (E u.aJ) (E v.aJ);rw[<-F7,<-Gc]at XB;obtain⟨Xp,Pd⟩:=V (decide (u.aJ=v.aJ));rw[<-Pd]at XB;have b1H:W.cell? ⟨w.heap.size,0,none⟩=some (.string a5R):=by rw[F7];exact i.aE ET.aJ
 have b1M:W.cell? ⟨w.heap.size+1,0,none⟩=some (.string a5U):=by rw[Gc];exact l.aE d.aJ
 clear F7 Gc;have WL:=F (show Xp=true ↔ u.aJ=v.aJ by rw[Pd,gx]);clear Pd;have XC:=rI u.usr v.usr;obtain⟨a5S,F8,a5V,Gd⟩:=ac (E u.usr) (E v.usr);rw[<-F8,<-Gd]at XC;obtain⟨Xq,Pe⟩:=V (decide (u.usr=v.usr));rw[<-Pe]at XC;have b1I:W.cell? ⟨w.heap.size,1,none⟩=some (.string a5S):=by rw[F8];exact i.aE ET.usr
 have b1N:W.cell? ⟨w.heap.size+1,1,none⟩=some (.string a5V):=by rw[Gd];exact l.aE d.usr
 clear F8 Gd;have WM:=F (show Xq=true ↔ u.usr=v.usr by rw[Pe,gx]);clear Pe;have XA:=rI u.ib v.ib;obtain⟨a5Q,F6,a5T,Gb⟩:=ac (E u.ib) (E v.ib);rw[<-F6,<-Gb]at XA;obtain⟨Xo,Pc⟩:=V (decide (u.ib=v.ib));rw[<-Pc]at XA;have b1G:W.cell? ⟨w.heap.size,2,none⟩=some (.string a5Q):=by rw[F6];exact i.aE ET.ib
 have b1L:W.cell? ⟨w.heap.size+1,2,none⟩=some (.string a5T):=by rw[Gb];exact l.aE d.ib
 clear F6 Gb;have WK:=F (show Xo=true ↔ u.ib=v.ib by rw[Pc,gx]);clear Pc
 obtain⟨N4,OU⟩:∃b:Bool,(b=true ↔ u.host=v.host):=by
  by_cases h:u.host=v.host
  ·exact⟨true,λ_=>h,λ_=>rfl⟩
  exact⟨false,λh=>(by cases h),λI=>absurd I h⟩
 have P:=F OU;clear OU;obtain⟨zw,pW,zx,pX,rT,sd⟩:=ax (u.bz) (v.bz) (decide (u.bz=v.bz));have a1H:(zw==zx)=rT:=by rw[pW,pX,sd];first|exact iM _ _|rfl
 have a1F:W.cell? ⟨w.heap.size,14,none⟩=some (.bool zw):=by rw[pW];exact i.aE ET.bz
 have a1G:W.cell? ⟨w.heap.size+1,14,none⟩=some (.bool zx):=by rw[pX];exact l.aE d.bz
 clear pW pX;have xK:=F (show rT=true ↔ u.bz=v.bz by rw[sd,gx]);clear sd;obtain⟨SN,Aj,SR,Ao,EY,FH⟩:=ax (u.port) (v.port) (decide (u.port=v.port));have a8R:(SN==SR)=EY:=by rw[Aj,Ao,FH];first|exact iM _ _|rfl
 have a8H:W.cell? ⟨w.heap.size,15,none⟩=some (.int .i64 SN):=by rw[Aj];exact i.aE ET.port
 have a8N:W.cell? ⟨w.heap.size+1,15,none⟩=some (.int .i64 SR):=by rw[Ao];exact l.aE d.port
 clear Aj Ao;have Nq:=F (show EY=true ↔ u.port=v.port by rw[FH,gx]);clear FH;obtain⟨Yf,t,Yg,Ga,NV,Pb⟩:=ax (u.opq) (v.opq) (decide (u.opq=v.opq));have b1P:(Yf==Yg)=NV:=by rw[t,Ga,Pb];first|exact iM _ _|rfl
 have b1F:W.cell? ⟨w.heap.size,16,none⟩=some (.bool Yf):=by rw[t];exact i.aE ET.opq
 have b1K:W.cell? ⟨w.heap.size+1,16,none⟩=some (.bool Yg):=by rw[Ga];exact l.aE d.opq
 clear t Ga;have WJ:=F (show NV=true ↔ u.opq=v.opq by rw[Pb,gx]);clear Pb;have OT:=rI u.flat v.flat;obtain⟨a1c,Ag,a1d,Al⟩:=ac (E u.flat) (E v.flat);rw[<-Ag,<-Al]at OT;obtain⟨NU,FD⟩:=V (decide (u.flat=v.flat));rw[<-FD]at OT;have a8D:W.cell? ⟨w.heap.size,17,none⟩=some (.string a1c):=by rw[Ag];exact i.aE ET.flat
 have a8J:W.cell? ⟨w.heap.size+1,17,none⟩=some (.string a1d):=by rw[Al];exact l.aE d.flat
 clear Ag Al;have Nl:=F (show NU=true ↔ u.flat=v.flat by rw[FD,gx]);clear FD;obtain⟨EX,FG⟩:=V (decide (u.path=v.path));have a8G:W.cell? ⟨w.heap.size,18,none⟩=some (pu):=by exact i.aE ET.path
 have a8M:W.cell? ⟨w.heap.size+1,18,none⟩=some (A):=by exact l.aE d.path
 have Np:=F (show EX=true ↔ u.path=v.path by rw[FG,gx]);have HEP:=fo (bF prog 78 #[pu,A] W (.bool EX)) (by have hh:=N.o;rw[<-FG]at hh;exact hh);clear FG;obtain⟨SM,Ai,SQ,IC,EV,FF⟩:=ax (u.bZ) (v.bZ) (decide (u.bZ=v.bZ));have a8Q:(SM==SQ)=EV:=by rw[Ai,IC,FF];first|exact iM _ _|rfl
 have YX:=F<|λg (c:r7 W g)=>(show g.cell? ⟨w.heap.size,19,none⟩=some (.bool SM)/\g.cell? ⟨w.heap.size+1,19,none⟩=some (.bool SQ)from⟨by rw[Ai];exact(i.keep c).aE ET.bZ,by rw[IC];exact(l.keep c).aE d.bZ⟩);clear Ai IC;have Nn:=F (show EV=true ↔ u.bZ=v.bZ by rw[FF,gx]);clear FF;have e_q:=rI u.q v.q;obtain⟨x_q,p,y_q,s⟩:=ac (E u.q) (E v.q);rw[<-p,<-s]at e_q;obtain⟨R,D⟩:=V (decide (u.q=v.q));rw[<-D]at e_q;have L_q:=F<|λg (c:r7 W g)=>(show g.cell? ⟨w.heap.size,20,none⟩=some (.string x_q)/\g.cell? ⟨w.heap.size+1,20,none⟩=some (.string y_q)from⟨by rw[p];exact(i.keep c).aE ET.q,by rw[s];exact(l.keep c).aE d.q⟩);clear p s;have M:=F (show R=true ↔ u.q=v.q by rw[D,gx]);clear D;obtain⟨SK,Ah,SO,Am,EU,FE⟩:=ax (u.cg) (v.cg) (decide (u.cg=v.cg));have a8P:(SK==SO)=EU:=by rw[Ah,Am,FE];first|exact iM _ _|rfl
 have YW:=F<|λg (c:r7 W g)=>(show g.cell? ⟨w.heap.size,21,none⟩=some (.bool SK)/\g.cell? ⟨w.heap.size+1,21,none⟩=some (.bool SO)from⟨by rw[Ah];exact(i.keep c).aE ET.cg,by rw[Am];exact(l.keep c).aE d.cg⟩);clear Ah Am;have Nm:=F (show EU=true ↔ u.cg=v.cg by rw[FE,gx]);clear FE;have T:=rI u.f v.f;obtain⟨x_f,n,y_f,r⟩:=ac (E u.f) (E v.f);rw[<-n,<-r]at T;obtain⟨y,z⟩:=V (decide (u.f=v.f));rw[<-z]at T;have L_f:=F<|λg (c:r7 W g)=>(show g.cell? ⟨w.heap.size,22,none⟩=some (.string x_f)/\g.cell? ⟨w.heap.size+1,22,none⟩=some (.string y_f)from⟨by rw[n];exact(i.keep c).aE ET.f,by rw[r];exact(l.keep c).aE d.f⟩);clear n r;have L:=F (show y=true ↔ u.f=v.f by rw[z,gx]);clear z;clear ET d i l hh kk U hW h k hB hC hl hm J K
 have JV:=fo (u=v ↔ (Xp&&Xq&&Xo&&N4&&rT&&EY&&NV&&NU&&EX&&EV&&R&&EU&&y)=true) (by
  simp only[f8,WL.o,WM.o,WK.o,P.o,xK.o,Nq.o,WJ.o,Nl.o,Np.o,Nn.o,M.o,Nm.o,L.o];constructor
  ·intro h;rw[h];simp
  rintro⟨⟨⟨⟨⟨⟨⟨⟨⟨⟨⟨⟨Y,I⟩,h3⟩,h4⟩,h5⟩,h6⟩,h7⟩,h8⟩,h9⟩,h10⟩,h11⟩,h12⟩,h13⟩;exact a06 Y I h3 h4 h5 h6 h7 h8 h9 h10 h11 h12 h13)
 clear N WL WM WK xK Nq WJ Nl Np Nn M Nm L;go_enter func46,ntmps46
 go_upto_region 1 with fail
 rw[HW.o];refine wp_region_lit ?_;simp only[List.append_eq,dE,f9]
 go_wp2_with(first|(refine b7u rfl 25 rfl w.heap.size 3 u.host U8.o rfl R1.o ?_)|(refine b7u rfl 27 rfl (w.heap.size+1) 3 v.host V8.o rfl R2.o ?_)|(refine a8I rfl 26 28 rfl u.host v.host U8.o V8.o N4 P.o rfl rfl ?_)|(go_at_call 78;refine HEP.o.k λg c=>?_;have B2:=F<|dw HB.o c.o;obtain⟨a8F,a8L⟩:=YX.o _ c.o;obtain⟨c_q,d_q⟩:=L_q.o _ c.o;obtain⟨a8E,a8K⟩:=YW.o _ c.o;obtain⟨c_f,d_f⟩:=L_f.o _ c.o;clear c))
 all_goals first
  |(refine DC (q:=y) r5 r5 (by first|exact B2.o|exact HB.o) ?_;rw[JV.o];clear JV;simp_all)
  |(refine DC (q:=false) r5 r5 (by first|exact B2.o|exact HB.o) ?_;rw[JV.o];clear JV;simp_all)

theorem Db:∀l:List O,l.length<=(cH l).length
 | []=>by simp[cH]
 |p::r=>by
  have:=Db r;unfold cH;simp only[ae,cz,aO];omega
theorem om{aJ:O}{l:List O}:(cH (cE aJ l)).length<=(cH l).length:=by
 match l with
 | []=>simp[cE,cH]
 | [x] =>
  show(cH (if aJ=[102,105,108,101]/\jN x=true then [x]else [])).length<=_
  split
  ·exact ag _
  simp[cH]
 |x::y::r =>
  show(cH ((x::y::r).dropLast)).length<=_;have e:=ip (l:=x::y::r) Oc;have h:=congrArg (λl=>(cH l).length) e
  try dsimp only at h
  rw[jc]at h;simp only[ae]at h;omega
theorem DE{aJ:O}{out:List O}{p:O}{last:Bool}:(cH (kT aJ out p last)).length<=(cH out).length+(3*p.length+1):=by
 have hs:=om (aJ:=aJ) (l:=out);have hp:=gv 4 p;unfold kT
 split
 ·split
  ·rw[jc];simp only[ae,cz,aO];omega
  omega
 split
 ·split
  ·rw[jc];simp only[ae,cz,aO];omega
  omega
 split
 ·next h =>
  have I:p.length=2:=by
   have d:=h.2.2
   match p with
   | []=>cases d
   | [a]=>cases d
   | [a,b]=>rfl
   |a::b::c::r=>cases d
  rw[jc];simp only[ae,cz,aO,aD];omega
 rw[jc];simp only[ae,cz,aO];omega
def ud:List O->Nat
 | []=>0
 |p::r=>(p.length+1)+ud r
theorem y4{aJ:O}:∀(c out:List O),(cH (kH aJ out c)).length<=(cH out).length+3*ud c
 | [],out=>by simp[kH]
 | [p],out=>by
  have:=DE (aJ:=aJ) (out:=out) (p:=p) (last:=true);show(cH (kT aJ out p true)).length<=_;unfold ud ud;omega
 |p::q::r,out=>by
  have Y:=DE (aJ:=aJ) (out:=out) (p:=p) (last:=false);have I:=y4 (aJ:=aJ) (q::r) (kT aJ out p false);show(cH (kH aJ (kT aJ out p false) (q::r))).length<=_;have e:ud (p::q::r)=(p.length+1)+ud (q::r):=rfl;omega
theorem DH(sp:Bool):∀s:O,ud (gE sp s)=s.length+1
 | []=>rfl
 |c::t=>by
  have f:=DH sp t;unfold gE
  split
  ·show(0+1)+ud (gE sp t)=_
   rw[f,cz];omega
  obtain⟨p,d,e⟩:=uD sp t;rw[e]at f⊢;have e1:ud (p::d)=(p.length+1)+ud d:=rfl;have g:ud ((c::p)::d)=((c::p).length+1)+ud d:=rfl;rw[g,cz,cz];omega
theorem iF(aJ:O)(path:List O)(s:O):(cH (da aJ path s)).length<=(cH path).length+3*s.length+3:=by
 have h:=y4 (aJ:=aJ) (gE (eU aJ) s) path;rw[DH]at h;unfold da;omega
theorem we(aJ s:O):(cH (gW aJ s)).length<=3*s.length+3:=by
 unfold gW;have Y:=iF aJ [] s;have I:=iF aJ [] (s.drop 1);have e:(cH ([]:List O)).length=0:=rfl;rw[e]at Y I
 split
 ·rw[aj]at I;omega
 omega
theorem QC(c:Prop) [Decidable c] (l:List O):(cH (if c then l.take 1 else [])).length<=(cH l).length:=by
 split
 ·cases l with
  |nil=>simp[cH]
  |cons x r =>
   show(cH [x]).length<=_;simp[cH]
 simp[cH]
structure Ul (L M:Nat) (u:Url):Prop where
 aJ:u.aJ.length<=L
 usr:u.usr.length<=3*L
 ib:u.ib.length<=3*L
 host:(∃n sp,n.length<=L/\fm n sp=some u.host)\/u.host.name=[]
 flat:u.flat.length<=3*L+3
 path:(cH u.path).length<=M
 q:u.q.length<=3*L
 f:u.f.length<=3*L
structure Pl (L:Nat) (p:kW):Prop where
 aJ:p.aJ.length<=L
 rest:p.rest.length<=L
 q:p.q.length<=L
 f:p.f.length<=L
theorem Rp(s:O):Pl s.length (fw s):=by
 have a:=fD 35 s;have b:=fD 63 (bQ 35 s).1;have c:=fD 58 (bQ 63 (bQ 35 s).1).1;unfold fw;dsimp only
 split
 ·exact⟨by rw[ay];omega,by dsimp only;omega,by dsimp only;omega,by dsimp only;omega⟩
 exact⟨aL _,by dsimp only;omega,by dsimp only;omega,by dsimp only;omega⟩
theorem b73(s:O):(eN s).length<=s.length:=by
 have Y:(eN s).length<=(trimF s).length:=dO _ _;have I:(trimF s).length<=s.length:=sN s;omega
theorem Jx{s:O}{L:Nat}(h:s.length<=L):Pl L (fw (eN s)):=by
 have Y:=Rp (eN s);have I:=b73 s;exact⟨by have:=Y.aJ;omega,by have:=Y.rest;omega,by have:=Y.q;omega,by have:=Y.f;omega⟩
section
variable {L M:Nat} {b u:Url} {p:kW}
theorem rA(hp:Pl L p){aJ:O}(c:aJ.length<=L):Ul L M (dp aJ p):=by
 refine⟨c,aL _,aL _,.inr rfl,aL _,aL _,?_,?_⟩
 ·have Y:=gv (if eU aJ=true then 3 else 2) p.q
  have I:=hp.q;show(dD (if eU aJ=true then 3 else 2) p.q).length<=_;omega
 have Y:=gv 1 p.f;have I:=hp.f;show(dD 1 p.f).length<=_;omega
theorem Ba{u0:Url}{s:O}(c:Ul L M u0)(hs:s.length<=L)(hM:3*L+3<=M)(h:jS u0 s=some u):Ul L M u:=by
 unfold jS at h;dsimp only at h;have hc:=nK (eU u0.aJ) s;cases d:kr u0.aJ (dU (eU u0.aJ) s).1 with
 |none=>rw[d]at h;cases h
 |some a =>
  rw[d]at h;injection h with h
  obtain⟨Y,I,n,hn,hh⟩:=NT d;rw[<-h];refine⟨c.aJ,by dsimp only;omega,by dsimp only;omega,.inl ⟨n,_,M0,hh⟩,c.flat,?_,c.q,c.f⟩;dsimp only
  split
  ·have:=we u0.aJ (dU (eU u0.aJ) s).2
   omega
  exact c.path
theorem Sy{u0:Url}{s:O}(c:Ul L M u0)(hs:s.length<=L)(hM:3*L+3<=M)(h:iy u0 s=some u):Ul L M u:=by
 unfold iy at h;dsimp only at h;have hc:=nK true s;have hp2:=we u0.aJ (dU true s).2;have i:=iF u0.aJ [] s;have e:(cH ([]:List O)).length=0:=rfl;rw[e]at i
 split at h
 ·injection h with h
  rw[<-h];exact⟨c.aJ,c.usr,c.ib,c.host,c.flat,by dsimp only;omega,c.q,c.f⟩
 split at h
 ·injection h with h
  rw[<-h];exact⟨c.aJ,c.usr,c.ib,c.host,c.flat,by dsimp only;omega,c.q,c.f⟩
 cases d:fm (dU true s).1 true with
 |none=>rw[d]at h;cases h
 |some g =>
  rw[d]at h;injection h with h
  rw[<-h];refine⟨c.aJ,c.usr,c.ib,?_,c.flat,by dsimp only;omega,c.q,c.f⟩;dsimp only
  split
  ·exact c.host
  exact .inl ⟨_,_,M0,d⟩
theorem b7J(c:Ul L M u)(U:Ul L M b):Ul L M (fM u b):=by
 unfold fM
 split
 ·exact⟨c.aJ,c.usr,c.ib,c.host,c.flat,U.path,c.q,c.f⟩
 exact⟨c.aJ,c.usr,c.ib,c.host,c.flat,U.path,U.q,c.f⟩
theorem Ul.more{c:Nat}(h:Ul L M u)(d:M<=c):Ul L c u:=⟨h.aJ,h.usr,h.ib,h.host,h.flat,am h.path d,h.q,h.f⟩
theorem pf(c:Ul L M u)(l:List O){d:Nat}(e:(cH l).length<=d):Ul L d {u with path:=l}:=⟨c.aJ,c.usr,c.ib,c.host,c.flat,e,c.q,c.f⟩
theorem Wz(hp:Pl L p)(j:4<=L)(U:Ul L M b)(h:lG b p=some u):Ul L (M+3*L+3) u:=by
 have c:Ul L (M+3*L+3) (dp aR p):=rA hp j;have hr:=hp.rest;have g:=U.path;rw[vp]at h
 have I:Ul L (M+3*L+3) (Nb b p):=by
  unfold Nb
  split
  ·exact⟨c.aJ,c.usr,c.ib,U.host,c.flat,c.path,c.q,c.f⟩
  exact⟨c.aJ,c.usr,c.ib,.inr rfl,c.flat,c.path,c.q,c.f⟩
 split at h
 ·exact Sy (u0:={dp aR p with host:={H0 with kind:=1}}) ⟨c.aJ,c.usr,c.ib,.inr rfl,c.flat,c.path,c.q,c.f⟩ (by rw[aj];omega) M0 h
 split at h
 ·injection h with h
  rw[<-h];refine pf I _ ?_;have d:=iF aR (if b.aJ=aR then yq b (p.rest.drop 1)else []) (p.rest.drop 1)
  have i:(cH (if b.aJ=aR then yq b (p.rest.drop 1)else [])).length<=M:=by
   split
   ·exact am (QC _ _) g
   simp[cH]
  rw[aj]at d;omega
 split at h
 ·injection h with h
  rw[<-h];exact b7J I (U.more M0)
 split at h
 ·injection h with h
  rw[<-h];refine pf I _ ?_;have d:=iF aR (cE aR b.path) p.rest;have i:=om (aJ:=aR) (l:=b.path);omega
 injection h with h
 rw[<-h];refine pf I _ ?_;have d:=iF aR [] p.rest;have e:(cH ([]:List O)).length=0:=rfl;omega
theorem Sz(hp:Pl L p)(h:gi p=some u):Ul L (3*L+3) u:=by
 have c:Ul L (3*L+3) (dp p.aJ p):=rA hp hp.aJ;have d:=hp.rest;unfold gi at h;dsimp only at h
 split at h
 ·next r he =>
  rw[he]at d;simp only[cz]at d;exact Ba c M0 (ag _) h
 ·next r _ he =>
  rw[he]at d;simp only[cz]at d;injection h with h
  rw[<-h];refine pf c _ ?_;have g:=iF p.aJ [] r;have e:(cH ([]:List O)).length=0:=rfl;show(cH (da p.aJ [] r)).length<=_;omega
 injection h with h
 rw[<-h];refine⟨c.aJ,c.usr,c.ib,c.host,?_,c.path,c.q,c.f⟩;have g:=gv 0 p.rest;dsimp only
 split
 ·simp only[ae,fY,cz,aO];omega
 omega
theorem b8V(hp:Pl L p)(U:Ul L M b)(h:k5 b p=some u):Ul L M u:=by
 unfold k5 at h
 split at h
 ·cases h
 injection h with h
 rw[<-h];refine⟨U.aJ,U.usr,U.ib,U.host,U.flat,U.path,U.q,?_⟩;have Y:=gv 1 p.f;have I:=hp.f;show(dD 1 p.f).length<=_;omega
theorem a03(hp:Pl L p)(U:Ul L M b)(h:ri b p=some u):Ul L (M+3*L+3) u:=by
 have c:Ul L (M+3*L+3) (dp b.aJ p):=rA hp U.aJ;have hr:=hp.rest;have hbp:=U.path;have hA:Ul L (M+3*L+3) (takeA (dp b.aJ p) b):=⟨c.aJ,U.usr,U.ib,U.host,c.flat,c.path,c.q,c.f⟩;unfold ri at h;dsimp only at h
 split at h
 ·exact Ba c (by rw[aj];omega) M0 h
 split at h
 ·exact Ba c (by rw[aj];omega) M0 h
 split at h
 ·injection h with h
  rw[<-h];refine pf hA _ ?_;have d:=iF b.aJ [] (p.rest.drop 1);have e:(cH ([]:List O)).length=0:=rfl;rw[aj]at d;omega
 split at h
 ·injection h with h
  rw[<-h];exact b7J hA (U.more M0)
 injection h with h
 rw[<-h];refine pf hA _ ?_;have d:=iF b.aJ (cE b.aJ b.path) p.rest;have h4:=om (aJ:=b.aJ) (l:=b.path);omega
theorem JM(hp:Pl L p)(c:4<=L)(U:Ul L M b)(h:eL b p=some u):Ul L (M+3*L+3) u:=by
 unfold eL at h
 split at h
 ·exact Wz hp c U h
 split at h
 ·have:=hp.rest
  exact Ba (rA hp hp.aJ) (by rw[aj];omega) M0 h
 split at h
 ·exact(Sz hp h).more M0
 split at h
 ·exact(b8V hp U h).more M0
 exact a03 hp U h
end
theorem a5N(L:Nat):Ul L 0 U0:=⟨aL _,aL _,aL _,.inr rfl,aL _,aL _,aL _,aL _⟩
theorem oG{s:O}{u:Url}{L:Nat}(d:s.length<=L)(c:4<=L)(h:eF s=some u):Ul L (3*L+3) u:=by
 unfold eF at h
 split at h
 ·have:=JM (M:=0) (Jx d) c (a5N L) h
  rw[bM]at this;exact this
 cases h
theorem SD{b u:Url}{s:O}{L M:Nat}(d:s.length<=L)(c:4<=L)(U:Ul L M b)(h:kF b s=some u):Ul L (M+3*L+3) u:=JM (Jx d) c U h
theorem a1I{l n:O}(hl:l.length<=1000)(hd:nw (nJ l)=some n):n.length<=102400000:=by
 have Y:=rf _ l (ag _);have I:=rx (signs (nJ l));have h3:=lR _ (nJ l) (ag _);have h4:=Cg hd;omega
theorem a1J{s:O}{sp:Bool}{h:gF}(hh:fm s sp=some h)(c:s.length<=1000):h.name.length<=102400000:=by
 have key:sS s sp h->h.name.length<=102400000:=by
  intro e;cases e with
  |six a h8 ha _=>exact aL _
  |name n e _ hd hn U he=>exact a1I c hd
  |four n e _ h=>exact aL _
  |empty e h=>exact aL _
  |a0z e _ h U =>
   have:=VR s;show(dD 0 s).length<=_;omega
 exact key (hkind hh)
theorem a6V{L M:Nat}{u:Url}(h:Ul L M u)(hL:L<=1000)(hM:M<=1024000000):nc u:=by
 refine⟨by have:=h.aJ;omega,by have:=h.usr;omega,by have:=h.ib;omega,?_,by have:=h.flat;omega,by have:=h.path;omega,by have:=h.q;omega,by have:=h.f;omega⟩;rcases h.host with⟨n,sp,hn,hh⟩|h
 ·exact a1J hh M0
 rw[h];exact aL _
theorem qQ{u:Url}(g:Good u):gG u:=by
 cases g.body with
 |opq Y I c h4 d=>exact⟨by rw[c];exact WN,by rw[d.n];omega⟩
 |none Y I c d=>exact⟨by rw[c];exact WN,by rw[d.n];omega⟩
 |file Y f c d hp =>
  refine⟨?_,by rw[d.n];omega⟩;rcases c with c|⟨n,_,c,_⟩
  ·rw[c];exact⟨Oc,by simp[H0],rfl,xV⟩
  exact od (hkind c)
 |asked Y f e hp =>
  obtain⟨n,hh,_⟩:=e.h;refine⟨od (hkind hh),?_⟩;rcases e.q with⟨_,h⟩|⟨_,I,c,_⟩
  ·have h:u.port=0:=h
   rw[h];omega
  have I:0<=u.port:=I;have c:u.port<=65535:=c;omega
theorem Sx{L M:Nat}{u:Url}(h:Ul L M u)(hM:M<=307200000):u.path.length<=307200000/\∀x∈u.path,List.length x<=1024000000:=by
 have Y:=h.path;have I:=Db u.path;refine⟨M0,λx X=>?_⟩
 have key:∀l:List O,x∈l->x.length<=(cH l).length:=by
  intro l
  induction l with
  |nil=>intro h;cases h
  |cons p r c =>
   intro h;unfold cH;simp only[ae];rcases aK.mp h with rfl|h
   ·omega
   have:=c h;omega
 have:=key _ X;omega

theorem sB{w:H}{base e:Nat}{v:Z}{l:List O}(h:w.ownsRow base e 1 v l.length (Strs l)):w.ownsRow base e 1 v (Strs l).length (Strs l):=by
 rw[show(Strs l).length=l.length from ay _];exact h
structure zK (u:Url):Prop where
 ok:gG u
 sm:nc u
 E:u.path.length<=307200000/\∀x∈u.path,List.length x<=1024000000
theorem zK.six{u:Url}(h:zK u):u.host.six.length=8:=h.ok.h.l
theorem zK.b{u:Url}(h:zK u):Bs u.path:=⟨h.E.1,h.E.2⟩
theorem b8W(u:Url)(A:Z)(w:H)(h:zK u)(d:Sl w.heap.size w A (u.path.map S))(c:NE w):bF prog 11 #[.agg (ai A u),.bool true] w (S (dA u true)) :=
 rr u (ai A u) A true w (lV A h.ok) d h.sm c
theorem a2s{s:O}{u:Url}(d:s.length<=1000)(h:eF s=some u):zK u:=by
 have c:=oG d M0 h;exact⟨qQ (kG h),a6V c (ag _) M0,Sx c M0⟩

theorem Uh{s:O}{k:Nat}(h:k<s.length):bT (s.drop k)=if mw s[k]=true then bT (s.drop (k+1))else s.drop k:=by
 rw[aC h];unfold bT;cases U:mw s[k]with
 |true=>rw[aQ U,ge rfl]
 |false=>rw[aX (by rw[U];simp),gc Oc]
theorem js(s:O)(w:H)(D:s.length<=1000000000):bP prog 92 #[.string (E s)] w (S (bT s)):=by
 obtain⟨b,U,L,n⟩:=ac (E s) (s.length);have hsz:b.size=L:=by rw[U,aF,n]
 obtain⟨R,t⟩:=V (bT s);have q:=fo (R=bT (s.drop 0)) t;have j:=fo (L=s.length/\b=E s) ⟨n,U⟩;rw[<-U,<-t];rw[<-n]at D;clear U n t;go_enter func92,ntmps92;go_wp2_with fail
 go_loopw [3] (λiv wr=>∃k:Nat,k<=L/\iv=.int .i64 k/\Hid (R=bT (s.drop k))/\wr=w) (λi _=>L-(intOf i).toNat)
 exact⟨0,aL _,rfl,q,rfl⟩
 obtain⟨k,hk,rfl,C,hw⟩:=hrel;subst wr;by_cases hlt:k<L
 ·have l:k<s.length:=by have:=j.o.1;omega
  have v:k<b.size:=M0;have X:=cy j.o.2 v l;have c:=C.o;rw[Uh l]at c;have d:=λW=>fh (G s[k]) W;have f:iW (G s[k])=mw s[k]:=rfl;rw[f]at d;obtain⟨z,x⟩:=V (G s[k]);rw[<-x]at X d;cases h:mw s[k]with
  |true =>
   rw[h,ge rfl]at c;rw[h]at d;have r:=F c;have y:=F d;clear c d f x h
   go_wp2_with(go_at_call 34;refine(y.o _).e ?_)
   go_roundw
   exact⟨k+1,M0,by go_num,r,by trivial⟩
   exact aa
  |false =>
   rw[h,gc Oc]at c;rw[h]at d;have hex:b.extract k L=E R:=by rw[j.o.2,cd,c,aP (by rw[aj];have:=j.o.1;omega)]
   obtain⟨J,K⟩:=ey (E R);rw[<-K.o]at hex;have y:=F d;clear c d f x h
   go_wp2_with(go_at_call 34;refine(y.o _).e ?_)
   go_ret;exact⟨by rw[show S R=.string J by rw[K.o]];rfl,rfl⟩
 obtain rfl:k=L:=M0;have c:=C.o;rw[j.o.1,dF]at c;have r:=fo (R=[]) c;clear c;go_wp2_with fail;go_ret;exact⟨by rw[r.o];rfl,rfl⟩

theorem Zi(x:UInt8)(r:O):(Lib.cut r [x]).1=r.takeWhile (· != x):=by
 by_cases h:x∈r
 ·obtain⟨p,q,e,hp,f⟩:=ou h
  rw[f,e]
  have c:∀y∈p,(y != x)=true:=λy hy=>by
   have:y≠x:=λe=>hp (e▸hy)
   simpa using this
  rw[b7v _ c,bI Oc,aV]
 rw[b68 h]
 have c:∀y∈r,(y != x)=true:=λy hy=>by
  have:y≠x:=λe=>h (e▸hy)
  simpa using this
 have:=b7v (d:=r) [] c;rw[aV]at this;rw[this];simp
theorem Bb(s:O)(w:H)(hL:s.length<=1000000000)(T:Env w):bF prog 95 #[.string (E s)] w (S (xI s)):=by
 cases s with
 |nil =>
  go_enter func95,ntmps95;obtain⟨b,HB⟩:=ey (E []);have J:b.toList.isEmpty=true:=by rw[HB.o,aB];rfl
  have P:b.toList=[]:=by rw[HB.o,aB]
  rw[<-HB.o];go_wp2_with fail;go_ret;exact⟨by rw[show S (xI [])=.string b by rw[HB.o];rfl];rfl,gT _ _⟩
 |cons x r =>
  obtain⟨b,U⟩:=V (E (x::r));have J:b.toList.isEmpty=false:=by rw[U,aB];rfl
  have P:¬b.toList=[]:=by rw[U,aB];simp
  have y:b.size=r.length+1:=by rw[U,aF];rfl
  have R:0<b.size:=M0;have X:=cy U R Oc;rw[show G (x::r)[0]=G x from rfl]at X;rw[<-U];obtain⟨N,l⟩:=V (r.length+1);rw[<-l]at y;have hN1:1<=N:=M0;have hN0:0<N:=M0;have UY:(1:Int)<=(N:Int):=M0;by_cases h:x=34\/x=39
  ·have c:xI (x::r)=(Lib.cut r [x]).1:=by rw[Zi];show(if x=34\/x=39 then r.takeWhile (· != x)else x::r)=_;rw[ge h]
   obtain⟨rb,f,xb,g⟩:=ac (E r) (E [x]);have pT:b.extract 1 N=rb:=by rw[U,f,cd,l];simp
   have n9:b.extract 0 1=xb:=by rw[U,g,cd];simp
   have d:=λW (hW:r7 w W)=>gK r [x] W (by rw[cz]at hL;omega) (T.below hW);obtain⟨C,hC⟩:=V (Lib.cut r [x]);rw[<-hC]at d c;rw[<-f,<-g]at d;have D:=F d;have n:=F c;rcases h with rfl|rfl
   all_goals
    clear d c hC f g U l
    first|rw[show G 34=34 from rfl]at X|rw[show G 39=39 from rfl]at X
    go_enter func95,ntmps95;go_wp2_with fail;refine wp_region_held_drew (S:=λW=>r7 w W) Rz (by exact bG (bg _)) (λhHeld=>?_);refine ek 0 ?_;refine ek 1 ?_;refine ek 2 ?_;refine ek 3 ?_
    refine rn 4 Rz rfl r5 (λK hK=>?_)
    go_simp
    refine(D.o _ hHeld).k λw3 i=>?_;have v:=hHeld.trans (i.o.m hHeld.size);clear i;refine hK.out _ _ ?_ (λhHeld=>?_)
    ·first|exact bG (bg _)|assumption
    clear hK K;refine ek 5 ?_;refine ek 6 ?_;refine ek 7 ?_;refine ek 8 ?_;refine ek 9 ?_;refine ek 10 ?_;refine ek 11 ?_
    refine wpAnyH_done Rz ?_ _;go_wp2_with fail;go_ret;exact⟨by rw[n.o];rfl,v⟩
  have c:xI (x::r)=x::r:=by show(if x=34\/x=39 then r.takeWhile (· != x)else x::r)=_;rw[gc h]
  have j:(G x==34)=false:=by simp;exact λe=>h (.inl (eX e))
  have k:(G x==39)=false:=by simp;exact λe=>h (.inr (eX e))
  obtain⟨z,B⟩:=V (G x);rw[<-B]at X j k;have q:¬z=34:=by simpa using j
  have t:¬z=39:=by simpa using k
  have n34:(z != 34)=true:=by simpa using q
  have n39:(z != 39)=true:=by simpa using t
  have n:=F (show S (xI (x::r))=.string b by rw[c,U]);clear c h B U l;go_enter func95,ntmps95;go_wp2_with fail;go_ret;exact⟨by rw[n.o];rfl,gT _ _⟩
theorem Zs(l:O):Lib.hasPrefix l [61]=decide (l.head? = some 61):=by
 cases l with
 |nil=>rfl
 |cons x r =>
  show((61==x)&&true)=_;rw[nk,oI];by_cases h:x=61
  ·subst h;rfl
  rw[gh (by simpa using h)];simp only[beq_eq_false_iff_ne];exact λe=>h e.symm
theorem D8(s:O)(w:H)(hL:s.length<=1000000000):bF prog 96 #[.string (E s)] w (S (lW s)):=by
 obtain⟨b,U,N,C⟩:=ac (E s) (s.length);have hsz:b.size=N:=by rw[U,aF,C]
 have y:S s=.string b:=by rw[U]
 obtain⟨P,n⟩:=V (lW s);rw[<-U,<-n];by_cases R:s.length<3
 ·have x:=F (show S P=.string b by
   rw[n,<-y];unfold lW;rw[gc];intro e;have:=congrArg List.length e;rw[ay,aD]at this;simp[a05]at this;omega)
  have hN3:(N:Int)<3:=M0;clear n y U C R;go_enter func96,ntmps96;go_wp2_with fail;go_ret;exact⟨by rw[x.o];rfl,gT _ _⟩
 have hN3:3<=N:=M0;have b4m:¬(N:Int)<3:=M0;obtain⟨tb,k⟩:=V (E (s.take 3));have hex:b.extract 0 3=tb:=by rw[U,k,cd];simp
 have h:=λW=>qD (s.take 3) W (by rw[aD];unfold maxLen;omega);unfold TW at h;rw[<-k]at h;obtain⟨K,g⟩:=V (E ((s.take 3).map dK));rw[show S ((s.take 3).map dK)=.string K by rw[g]]at h;have Yw:=F h;by_cases hu:(s.take 3).map dK=a05
 ·have i:lW s=match bT (s.drop 3)with
   | []=>s
   |c::t=>if c=61 then bT t else s:=by unfold lW;rw[ge hu];rfl
  have q1:(K.toList == [117,114,108])=true:=by rw[g,aB,hu];rfl
  have q2:K.toList=[117,114,108]:=by rw[g,aB,hu];rfl
  obtain⟨db,r⟩:=V (E (s.drop 3));have vE:b.extract 3 N=db:=by rw[U,r,cd,C,aP (by rw[aj];omega)]
  obtain⟨l,J⟩:=V (bT (s.drop 3))
  have q:l.length<=1000000000:=by
   rw[J];refine am (ce _).length_le ?_;rw[aj];omega
  have d:=λW=>js (s.drop 3) W (by rw[aj];omega);rw[<-r,<-J]at d;obtain⟨zb,v⟩:=V (E l);rw[show S l=.string zb by rw[v]]at d;have D:=F d;have f:=λW=>uW l [61] W;rw[<-v,Zs]at f;rw[<-J]at i;by_cases hh:l.head? = some 61
  ·obtain⟨t,ht⟩:∃t,l=61::t:=by
    cases l with
    |nil=>cases hh
    |cons c t=>exact⟨t,by rw[oI]at hh;rw[bj hh]⟩
   rw[ht]at i q;rw[gr hh,ht,show Lib.trimPrefix (61::t) [61]=t from rfl]at f;obtain⟨T,B⟩:=V (E t);rw[show S t=.string T by rw[B]]at f;have z:=λW=>js t W (by rw[cz]at q;omega);rw[<-B]at z;obtain⟨Ey,HB2,x⟩:=cZ (show ∀W,bP prog 142 #[.string zb,.string ⟨#[61]⟩] W (.tuple #[.string T,.bool true])from f) z (show P=bT t by rw[n,i];rfl);clear n y U C R h hu i J d v f hh ht B z r g k q;go_enter func96,ntmps96
   go_wp2_with(first|(go_at_call 19;refine(Yw.o _).k λw1 j=>?_)|(go_at_call 92;with_reducible first|refine(D.o _).e ?_)|(go_at_call 142;refine(Ey.o _).e ?_)|(go_at_call 92;with_reducible first|refine(HB2.o _).e ?_))
   go_ret;exact⟨by rw[x.o];rfl,j.o⟩
  rw[gh hh]at f;obtain⟨T,B⟩:=V (Lib.trimPrefix l [61]);rw[<-B]at f;have Ey:=fo (∀W,bP prog 142 #[.string zb,.string ⟨#[61]⟩] W (.tuple #[S T,.bool false])) f
  have x:=F (show S P=.string b by
   rw[n,<-y,i];cases l with
   |nil=>rfl
   |cons c t =>
    have:c≠61:=λe=>hh (by rw[e];rfl);show S (if c=61 then bT t else s)=S s;rw[gc this])
  clear n y U C R h hu i J d v f hh B r g k q;go_enter func96,ntmps96
  go_wp2_with(first|(go_at_call 19;refine(Yw.o _).k λw1 j=>?_)|(go_at_call 92;with_reducible first|refine(D.o _).e ?_)|(go_at_call 142;refine(Ey.o _).e ?_))
  go_ret;exact⟨by rw[x.o];rfl,j.o⟩
 have q1:(K.toList == [117,114,108])=false:=by rw[g,aB];exact beq_eq_false_iff_ne.mpr hu
 have q2:¬K.toList=[117,114,108]:=by rw[g,aB];exact hu
 have x:=F (show S P=.string b by rw[n,<-y];unfold lW;rw[gc hu]);clear n y U C R h hu g k;go_enter func96,ntmps96
 go_wp2_with(go_at_call 19;refine(Yw.o _).k λw1 j=>?_)
 go_ret;exact⟨by rw[x.o];rfl,j.o⟩

def jP:Url:={U0 with aJ:=[104,116,116,112],host:={H0 with kind:=2,name:=[104]},path:=[[97],[98]]}
