import Derived.Shelf.Vars
import Derived.KernelRfl
import Derived.Test.YtagfilhbpnjhkaaGreatDoorFGWlkY
import Derived.Lib.IndexLaws
import Derived.Lib.SlBuf
set_option maxRecDepth 10000
set_option maxHeartbeats 0
namespace Go.Proofs.Q
open Tryz
theorem a1Q{W:H}(h:W.ShapedOpen prog):∃m,W.cell? ⟨0,0,none⟩=some (.int .i64 m) :=
 cell_of_shapedOpen_int (g:=0) (zero:=#[.int .i64 0]) (t:=3) h (of_decide_eq_true Rz) Rz rfl Rz Rz underlying3
end Go.Proofs.Q
namespace Go.Proofs.Q
open Tryz Go.RowKit
theorem Ds{s:O}{u:Url}(h:eF s=some u):u.host.six.length=8:=by
 unfold eF at h
 split at h
 ·exact ot (b:=U0) rfl h
 cases h
def a4x(t:ByteArray)(w:H):Option Url->Ending->H->Prop
 |none,e,w'=>e=.returned (.tuple #[.agg (ai aI U0),.bool false])/\r7 w w'
 |some u,e,w'=>∃A,e=.returned (.tuple #[.agg (ai A u),.bool (decide (t.size<=300))])/\w'.ownsRow w.heap.size 9 1 A u.path.length (Strs u.path)/\r7 w w'
end Go.Proofs.Q
namespace Go.Proofs.Q
open Tryz Go.RowKit
theorem xh(u:Url)(A:Z)(w:H)(h:zK u)(J:Sl w.heap.size w A (u.path.map S))(D:(dA u true).length<=1048576)(T:Env w)(hN:NE w):Calls prog 21 #[.agg (ai A u)] w λe p=>∃q,e=.returned (.bool q)/\(q=true ↔ eF (dA u true)=some u)/\r7 w p:=by
 obtain⟨N,M,YF,z,s⟩:=ec (λW (U:r7 w W)=>b8W u A W h ((J.below U).more U.size) (hN.below U)) (λW (U:r7 w W)=>xg (dA u true) W D (T.below U)) (λ(v:Url) (a:Z) W (U:r7 w W) (n:eF (dA u true)=some v) (o:W.ownsRow w.heap.size 9 1 a v.path.length (Strs v.path))=>RT v u a A W (B:=W.heap.size) (C:=w.heap.size) (Ds n) h.six (Sl.g9 (sB o)) (J.below U) (ag _) U.size (by have:=(Sx (oG (L:=1048576) D M0 n) M0).1;omega) (by have:=h.E.1;omega)) (λv (n:eF (dA u true)=some v)=>(Ds n)) h.six;obtain⟨t,K⟩:=V (E (dA u true));have zG:=fo (∀W,r7 w W->bF prog 11 #[.agg (ai A u),.bool true] W (.string t)) (by rw[K];exact N.o);have j:=fo (∀W,r7 w W->Calls prog 17 #[.string t] W (uK W (eF (dA u true)))) (by rw[K];exact M.o);clear h J D T hN K N M;have l:=F<|CB.new w 34 (ai A u);have g:=F<|(gT w.heap.size w).alloc (ag _) (.cells (ai A u) 34);obtain⟨w1,i⟩:=ey (w.alloc (.cells (ai A u) 34));rw[<-i.o]at l g;cases f:eF (dA u true)with
 |none =>
  have x:=F<|λW U=>(show bF prog 17 #[.string t] W (.tuple #[.agg (ai aI U0),.bool false])from by have h:=j.o W U;rw[f]at h;exact h);clear f;go_enter func21,ntmps21
  go_upto_region 1 with fail
  rw[<-i.o]
  go_upto_region 2 with(first|(refine cR rfl 1 rfl w.heap.size A u s.o rfl l.o ?_)|(go_at_call 11;refine(zG.o _ g.o).k λw2 U=>?_;have d:=F<|dw g.o U.o;clear U)|(go_at_call 17;refine(x.o _ d.o).k λw3 U=>?_;have r:=F<|dw d.o U.o;clear U)|(refine aM rfl 34 rfl _ _ (eD _) ?_)|(refine fL rfl 3 9 rfl aI U0 rfl rfl rfl rfl rfl ?_;intro w4 _ U;have k:=F<|dw r.o U;clear U))
  go_wp2_with fail;go_ret;exact⟨_,rfl,⟨λh=>(by cases h),λh=>(by cases h)⟩,k.o⟩
 |some v =>
  obtain⟨x,Q,y⟩:=cZ (λW U=>(show Calls prog 17 #[.string t] W λe p=>∃a,e=.returned (.tuple #[.agg (ai a v),.bool true])/\p.ownsRow W.heap.size 9 1 a v.path.length (Strs v.path)/\r7 W p from by have h:=j.o W U;rw[f]at h;exact h)) (z.o v f) (λa W U=>YF.o v a W U f);clear f;go_enter func21,ntmps21
  go_upto_region 1 with fail
  rw[<-i.o]
  go_upto_region 2 with(first|(refine cR rfl 1 rfl w.heap.size A u s.o rfl l.o ?_)|(go_at_call 11;refine(zG.o _ g.o).k λw2 U=>?_;have d:=F<|dw g.o U.o;have C2:=F<|l.o.keep U.o;clear U)|(go_at_call 17;refine(x.o _ d.o).m ?_;rintro e w3⟨a,rfl,o3,U⟩;obtain⟨r,C3,P⟩:=cZ (dw d.o U) (C2.o.keep U) (ea o3 d.o.size);clear U o3)|(refine aM rfl 34 rfl _ _ (eD _) ?_)|(refine fL rfl 3 9 rfl a v Q.o (bm P.o) rfl rfl rfl ?_;intro w4 R U;obtain⟨H4,k,C4,O4⟩:=dT R (dw r.o U) (C3.o.keep U) (own_below' P.o U);clear U R))
  go_wp2_with(first|(refine cR rfl 3 rfl w3.heap.size a v Q.o rfl H4.o ?_)|(refine cR rfl 1 rfl w.heap.size A u s.o rfl C4.o ?_)|(go_at_call 46;refine(y.o a _ k.o O4.o).m ?_;rintro e w5⟨q,rfl,hq,U⟩;have HQ:=F hq;have B5:=F<|dw k.o U;clear U hq))
  go_ret;refine⟨q,rfl,?_,B5.o⟩;rw[HQ.o];exact⟨λh=>by rw[h],λh=>bj h⟩
end Go.Proofs.Q
namespace Go.Proofs.Q
open Tryz Go.RowKit
theorem b3x{xs ys:List O}{k:Nat}(Y:k<xs.length)(I:k<ys.length)(a:xs.take k=ys.take k)(he:xs[k]=ys[k]):xs.take (k+1)=ys.take (k+1):=by
 rw[aH Y,aH I,a,he]
theorem b2Z(xs ys:List O)(J K:Nat)(w:H)(u:xs.length=ys.length)(hm:xs.length<=maxLen)(j q G r:Nat)
  (Y:At w j q (xs.map S)) (I:At w G r (ys.map S)) :
  bF prog 42 #[.slice (some ⟨j,q,none⟩) xs.length J,.slice (some ⟨G,r,none⟩) ys.length K] w (.bool (decide (xs=ys))):=by
 unfold maxLen at hm;have HL:=F u;obtain⟨n,g⟩:=V (xs.length);have e:n=ys.length:=M0;rw[<-g,<-e];rw[<-g]at hm;have s:=F g;clear g;have z:=F e;clear e u;have hne:((n:Int) != n)=false:=Oc;go_enter func42,ntmps42
 go_wp2
 go_loopw [5] (λi wr=>∃k d:Nat,k<=n/\i=.int .i64 k/\xs.take k=ys.take k/\wr=w.drewN d) (λi _=>n-(intOf i).toNat)
 exact⟨0,0,aL _,rfl,Oc,rfl⟩
 obtain⟨k,d,hk,rfl,v,rfl⟩:=hrel;have t:=F v;clear v;by_cases hlt:k<n
 ·have X:k<xs.length:=by have:=s.o;omega
  have hy:k<ys.length:=by have:=z.o;omega
  have l:w.cell? ⟨j,q+k,none⟩=some (.string (E xs[k])):=by rw[Y k (by simpa using X),cU]
  have m:w.cell? ⟨G,r+k,none⟩=some (.string (E ys[k])):=by rw[I k (by simpa using hy),cU]
  have heq:=rI xs[k] ys[k];have a:=fo (∀_:xs[k]=ys[k],xs.take (k+1)=ys.take (k+1)) (λhe=>b3x X hy t.o he);have c:=fo (∀_:¬xs[k]=ys[k],decide (xs=ys)=false) (λhe=>gh λh=>he (by subst h;rfl));obtain⟨x,B,y,f⟩:=ac (E xs[k]) (E ys[k]);rw[<-B]at l heq;rw[<-f]at m heq;clear B f;by_cases he:xs[k]=ys[k]
  ·rw[gr he]at heq
   have p:(x.toList != y.toList)=false:=by unfold bne;rw[heq];rfl
   have C:=F<|a.o he;clear he a c
   go_wp2
   go_quiet (fail)
   go_wp2
   go_roundw
   exact⟨k+1,_,M0,by go_num,C.o,rfl⟩
   exact aa
  rw[gh he]at heq;have p:(x.toList != y.toList)=true:=by unfold bne;rw[heq];rfl
  have D:=F<|c.o he;clear he a c
  go_wp2
  go_quiet (fail)
  go_wp2
  go_ret;exact⟨eA D.o.symm,ft (ft (gT _ _) _) _⟩
 go_wp2
 go_ret;refine⟨eA ?_,ft (gT _ _) _⟩;have e1:=s.o;have e2:=z.o;have h:=t.o;rw[aP M0,aP M0]at h;simp[h]
theorem a6D(xs ys:List O)(d e:Option Addr)(g i:Nat)(w:H)(a:xs.length≠ys.length) :
  bF prog 42 #[.slice d xs.length g,.slice e ys.length i] w (.bool (decide (xs=ys))):=by
 have hfin:decide (xs=ys)=false:=by
  rw[gz];intro h;exact a (by rw[h])
 have f:=F hfin;clear hfin;obtain⟨n,c,m,hm⟩:=ac (xs.length) (ys.length);rw[<-c,<-hm]at a;rw[<-c,<-hm];clear c hm;have hne:((n:Int) != m)=true:=by simp;omega
 clear a;go_enter func42,ntmps42
 go_wp2
 go_ret;exact⟨eA f.o.symm,gT _ _⟩
theorem b20(a c:Option Addr)(d e:Nat)(w:H) :
  bF prog 42 #[.slice a 0 d,.slice c 0 e] w (.bool true):=by
 go_enter func42,ntmps42
 go_wp2
 refine wp_loop_rounds 1 ?_;rw[rounds_succ]
 go_wp2
 go_ret;exact⟨rfl,gT _ _⟩
theorem b3s(xs ys:List O)(v1 v2:Z)(w:H)(o p:Nat)(Y:Sl o w v1 (xs.map S))(I:Sl p w v2 (ys.map S)) :
  bF prog 42 #[v1,v2] w (.bool (decide (xs=ys))):=by
 obtain⟨q,j,hm1,Y⟩:=Y;obtain⟨r,k,hm2,I⟩:=I;have s:(xs.map S).length=xs.length:=Oc;have t:(ys.map S).length=ys.length:=Oc;rw[s]at j Y;rw[t]at k I
 have none_:∀f a2 d1 d2,bF prog 42 #[.slice f 0 d1,.slice a2 0 d2] w (.bool (decide (([]:List O)=[]))) :=
  λf a2 d1 d2=>(b20 f a2 d1 d2 w).m λe w' h=>⟨by rw[h.1];simp,h.2⟩
 by_cases d:xs.length=ys.length
 ·rcases Y with⟨c,f,rfl⟩|⟨l,n,_,rfl,g⟩
  ·obtain rfl:xs=[]:=by simpa using c
   obtain rfl:ys=[]:=az (by simpa using d.symm);rcases I with⟨_,a2,rfl⟩|⟨G,i,_,rfl,a⟩
   ·exact none_ _ _ _ _
   exact none_ _ _ _ _
  rcases I with⟨c,a2,rfl⟩|⟨G,i,_,rfl,a⟩
  ·obtain rfl:ys=[]:=by simpa using c
   obtain rfl:xs=[]:=az (by simpa using d);exact none_ _ _ _ _
  exact b2Z xs ys q r w d M0 l n G i g a
 rcases Y with⟨c,f,rfl⟩|⟨l,n,_,rfl,g⟩
 ·obtain rfl:xs=[]:=by simpa using c
  rcases I with⟨c,a2,rfl⟩|⟨G,i,_,rfl,a⟩
  ·obtain rfl:ys=[]:=by simpa using c
   exact absurd rfl d
  simp only[aO]at *;exact a6D [] ys _ _ _ _ w d
 rcases I with⟨c,a2,rfl⟩|⟨G,i,_,rfl,a⟩
 ·obtain rfl:ys=[]:=by simpa using c
  exact a6D xs [] _ _ _ _ w d
 exact a6D xs ys _ _ _ _ w d
end Go.Proofs.Q
namespace Go.Proofs.Q
open Tryz Go.RowKit
theorem uy:∀l:O,(l.count 0=0/\∀x∈l,x≠0)\/∃a B,l=a++0::B/\(∀x∈a,x≠0)/\Lib.indexByte l 0=(a.length:Nat)/\l.count 0=B.count 0+1
 | []=>.inl ⟨rfl,λ_ h=>(by cases h)⟩
 |x::r=>by
  by_cases X:x=0
  ·subst X
   exact .inr ⟨[],r,rfl,λ_ h=>(by cases h),by simp[Lib.indexByte],by rw[b5t]⟩
  rcases uy r with⟨Y,I⟩|⟨a,B,rfl,I,c,d⟩
  ·refine .inl ⟨by rw[xR X];exact Y,λy hy=>?_⟩
   rcases aK.mp hy with rfl|hy
   ·exact X
   exact I y hy
  refine .inr ⟨x::a,B,rfl,λy hy=>?_,?_,by rw[xR X];exact d⟩
  ·rcases aK.mp hy with rfl|hy
   ·exact X
   exact I y hy
  rw[Lib.indexByte];have U:(x==0)=false:=by simpa using X
  rw[c];simp only[U,cz]
  split <;>first|omega|(simp_all;done)|skip
theorem zy{raw a B:O}{st:Nat}(h:raw.drop st=a++0::B)(hA:∀x∈a,x≠0):dY (raw.take (st+a.length+1))=dY (raw.take st)++a++ny/\raw.drop (st+a.length+1)=B:=by
 have c:raw.take (st+a.length+1)=raw.take st++(a++[0]):=by
  rw[EK,List.take_add,h]
  congr 1
  rw[show a++0::B=(a++[0])++B by simp,ko Oc]
 refine⟨?_,?_⟩
 ·rw[c,rD,rD,uH hA,<-List.append_assoc]
  rfl
 rw[EK,<-List.drop_drop,h,show a++0::B=(a++[0])++B by simp,Xf Oc]
theorem SS{raw:O}{st:Nat}(h:∀x∈raw.drop st,x≠0):dY raw=dY (raw.take st)++raw.drop st:=by
 conv=>lhs;rw[<-List.take_append_drop st raw]
 rw[rD,uH h]
theorem qf:∀l:O,(dY l).length=l.length+2*l.count 0
 | []=>rfl
 |x::r=>by
  show((if x=0 then ny else [x])++dY r).length=_;rw[ae,qf r];by_cases X:x=0
  ·subst X
   rw[ge rfl,b5t];show 3+_=_+1+_;omega
  rw[gc X,xR X];simp only[cz,aO];omega
end Go.Proofs.Q
namespace Go.Proofs.Q
open Tryz Go.RowKit
theorem a0G{k:Nat}(h:k<=22):KY (li k)=true:=VX ⟨k,M0⟩
theorem sE{P:Program}(w:H)(t:TypeId)(x y r:Nat)(h:Ieee.double.mul x y=some r):(binOp .mul t (.float .f64 x) (.float .f64 y)).run P w=.ok (.float .f64 r) w:=run_float_arith w .mul t .f64 x y r h
theorem Mm{P:Program}(w:H)(t:TypeId)(x y r:Nat)(h:Ieee.double.div x y=some r):(binOp .quo t (.float .f64 x) (.float .f64 y)).run P w=.ok (.float .f64 r) w:=run_float_arith w .quo t .f64 x y r h
theorem QX(x:Nat)(n:Int)(w:H)(X:okB x=true)(h0:-22<=n)(Y:n<=22) :
  bP prog 217 #[.float .f64 x,.int .i64 n] w (.float .f64 (moveB x n)):=by
 obtain⟨K,hK⟩:=V (n.natAbs);have g:K<=22:=M0;have hmx:(max n (-n):Int)=(K:Int):=M0;have hneg:IntKind.i64.wrap (-n)=-n:=gS _ M0;have hmul:∀k,k<K->Ieee.double.mul (li k) 4621819117588971520=some (li (k+1)):=λk r=>Rr M0;have hone:li 0=4607182418800017408:=rfl;have hend:moveB x n=if n<0 then(Ieee.double.div x (li K)).getD 0 else(Ieee.double.mul x (li K)).getD 0:=by unfold moveB;rw[hK]
 have hfin:=a0G g;obtain⟨m,hm⟩:=a0t X hfin;obtain⟨d,hd⟩:=Zn X hfin;rw[hm,hd]at hend;generalize q:li K=l at hm hd hfin hend;have e:=F hmul;clear hmul;have j:=F q;clear q;have p:=F hone;clear hone;by_cases s:n<0
 ·rw[ge s]at hend
  rw[hend];have f:=F<|λ(W:H) (t:TypeId)=>Mm (P:=prog) W t x l d hd;clear hend hm hd hfin X hK;go_enter func217,ntmps217;go_wp2_with fail
  go_loopw [5,10] (λA iv wr=>∃k:Nat,k<=K/\iv=.int .i64 k/\A=.float .f64 (li k)/\w=wr) (λ_ i _=>K-(intOf i).toNat)
  exact⟨0,M0,Oc,by rw[p.o],rfl⟩
  obtain⟨k,r,rfl,rfl,rfl⟩:=hrel;by_cases c:k<K
  ·have h:=λ(W:H) (t:TypeId)=>sE (P:=prog) W t (li k) 4621819117588971520 (li (k+1)) (e.o k c)
   have hlt2:(k:Int)<(K:Int):=M0;go_wp2_with fail;go_roundw
   exact⟨k+1,M0,Oc,Oc,by trivial⟩
   exact aa
  obtain rfl:k=K:=M0;have a:=f.o;rw[<-j.o]at a;go_wp2_with fail;go_ret;exact⟨rfl,rfl⟩
 rw[gc s]at hend;rw[hend];have f:=F<|λ(W:H) (t:TypeId)=>sE (P:=prog) W t x l m hm;clear hend hm hd hfin X hK;go_enter func217,ntmps217;go_wp2_with fail
 go_loopw [5,10] (λA iv wr=>∃k:Nat,k<=K/\iv=.int .i64 k/\A=.float .f64 (li k)/\w=wr) (λ_ i _=>K-(intOf i).toNat)
 exact⟨0,M0,Oc,by rw[p.o],rfl⟩
 obtain⟨k,r,rfl,rfl,rfl⟩:=hrel;by_cases c:k<K
 ·have h:=λ(W:H) (t:TypeId)=>sE (P:=prog) W t (li k) 4621819117588971520 (li (k+1)) (e.o k c)
  have hlt2:(k:Int)<(K:Int):=M0;go_wp2_with fail;go_roundw
  exact⟨k+1,M0,Oc,Oc,by trivial⟩
  exact aa
 obtain rfl:k=K:=M0;have a:=f.o;rw[<-j.o]at a;go_wp2_with fail;go_ret;exact⟨rfl,rfl⟩
theorem Sm(l m:O)(w:H):bP prog 129 #[.string (E l),.string (E m)] w (S (Lib.trimPrefix l m)):=by
 have h:=Any.strings_TrimPrefix laysTP (E l) (E m) w;rw[show(E l).data.toList=l from cW l,show(E m).data.toList=m from cW m]at h;exact h
theorem hp1(x:UInt8)(l:O):Lib.hasPrefix l [x]=decide (l.head? = some x):=by
 cases l with
 |nil=>rfl
 |cons y r =>
  by_cases h:y=x
  ·subst h;simp[Lib.hasPrefix,List.isPrefixOf]
  have I:(x==y)=false:=by simpa using Ne.symm h
  simp[Lib.hasPrefix,List.isPrefixOf,I,h]
theorem tp1(x:UInt8)(l:O):Lib.trimPrefix l [x]=if l.head? = some x then l.drop 1 else l:=by
 unfold Lib.trimPrefix;rw[hp1];by_cases h:l.head? = some x
 ·rw[ge h,gr h];rfl
 rw[gc h,gh h];rfl
