/- Joined texts. -/
import Derived.Test.YtajblocgpkpmeaaGreatDoorSGWlkY
import Derived.Shelf.Vars
import Derived.KernelRfl
import Derived.Deep.CutBlock
import Derived.Test.YtajblocgpkpmeaaGreatDoorSGEntD
import Derived.Lib.IndexLaws
import Derived.Lib.SlBuf
set_option maxHeartbeats 40000000
namespace Go.Proofs.YtajblocgpkpmeaaGreatDoor
open Tryz
open Go.RowKit
set_option maxRecDepth 10000
theorem Ds{s:O}{u:Url}(h:eF s=some u):u.host.six.length=8:=by
 unfold eF at h
 split at h
 ·exact ot (b:=U0) rfl h
 cases h
def a4x(t:ByteArray)(w:H):Option Url->Ending->H->Prop
 |none,e,w'=>e=.returned (.tuple #[.agg (ai aI U0),.bool false])/\r7 w w'
 |some u,e,w'=>∃ A,e=.returned (.tuple #[.agg (ai A u),.bool (decide (t.size<=300))])/\w'.ownsRow w.heap.size 9 1 A u.path.length (Strs u.path)/\r7 w w'
end Go.Proofs.YtajblocgpkpmeaaGreatDoor
set_option maxHeartbeats 40000000
namespace Go.Proofs.YtajblocgpkpmeaaGreatDoor
open Tryz
theorem a1Q{W:H}(h:W.ShapedOpen prog):∃ m,W.cell? ⟨1,0,none⟩=some (.int .i64 m) :=
 cell_of_shapedOpen_int (g:=1) (zero:=#[.int .i64 0]) (t:=3) h (of_decide_eq_true Rz) Rz rfl Rz Rz underlying3
end Go.Proofs.YtajblocgpkpmeaaGreatDoor
set_option maxHeartbeats 40000000
namespace Go.Proofs.YtajblocgpkpmeaaGreatDoor
open Tryz
open Go.RowKit
set_option maxRecDepth 10000
abbrev R0:Kg:=⟨[],false,[]⟩
section
variable {ops:Array Oper} {rest:List Oper} {o:Oper} {a:Act} {w:H} {Q:Exit->Act->H->Prop}
end
end Go.Proofs.YtajblocgpkpmeaaGreatDoor
set_option maxHeartbeats 40000000
namespace Go.Proofs.YtajblocgpkpmeaaGreatDoor
open Tryz
open Go.RowKit
set_option maxRecDepth 10000
theorem xh(u:Url)(A:Z)(w:H)(h:zK u)(K:Sl w.heap.size w A (u.path.map S))(J:(dA u true).length<=1048576)(hE:Env w)(hN:NE w):Calls prog 50 #[.agg (ai A u)] w λe r=>∃ q,e=.returned (.bool q)/\(q=true ↔ eF (dA u true)=some u)/\r7 w r:=by
 have P:=F<|λW (U:r7 w W)=>b8W u A W h ((K.below U).more U.size) (hN.below U);have N:=F<|λW (U:r7 w W)=>xg (dA u true) W J (hE.below U);have YF:=F<|λ(v:Url) (c:Z) W (U:r7 w W) (p:eF (dA u true)=some v) (o:W.ownsRow w.heap.size 9 1 c v.path.length (Strs v.path))=>RT v u c A W (B:=W.heap.size) (C:=w.heap.size) (Ds p) h.six (Sl.g9 (sB o)) (K.below U) (ag _) U.size (by have:=(Sx (oG (L:=1048576) J M0 p) M0).1;omega) (by have:=h.E.1;omega);have D:=F<|λv (p:eF (dA u true)=some v)=>(Ds p);have x:=F h.six;obtain⟨t,M⟩:=V (E (dA u true));have zG:=F (show ∀W,r7 w W->bF prog 11 #[.agg (ai A u),.bool true] W (.string t)from by rw[M];exact P.o);have k:=F (show ∀W,r7 w W->Calls prog 33 #[.string t] W (uK W (eF (dA u true)))from by rw[M];exact N.o);clear h K J hE hN M P N;have n:=F<|CB.new w 34 (ai A u);have i:=F<|(Below.refl w.heap.size w).alloc (ag _) (.cells (ai A u) 34);obtain⟨w1,d⟩:=V (w.alloc (.cells (ai A u) 34));rw[<-d]at n i;have j:=F d;clear d;cases g:eF (dA u true)with
 |none =>
  have y:=F<|λW U=>(show bF prog 33 #[.string t] W (.tuple #[.agg (ai aI U0),.bool false])from by have h:=k.o W U;rw[g]at h;exact h);clear g;go_enter func50,ntmps50
  go_upto_region 1 with fail
  rw[<-j.o]
  go_upto_region 2 with(first|(refine cR rfl (.tmp 1) rfl w.heap.size A u x.o rfl n.o ?_)|(go_at_call 11;refine(zG.o _ i.o).m ?_;rintro e w2 ⟨rfl,U⟩;have f:=F<|dw i.o U;clear U)|(go_at_call 33;refine(y.o _ f.o).m ?_;rintro e w3 ⟨rfl,U⟩;have s:=F<|dw f.o U;clear U)|(refine aM rfl 34 rfl _ _ (eD _) ?_)|(refine fL rfl (.tmp 3) (.tmp 9) rfl aI U0 rfl rfl rfl rfl rfl ?_;intro w4 _ U;have l:=F<|dw s.o U;clear U))
  go_wp2_with fail;go_ret;exact⟨_,rfl,⟨λh=>(by cases h),λh=>(by cases h)⟩,l.o⟩
 |some v =>
  have y:=F<|λW U=>(show Calls prog 33 #[.string t] W λe r=>∃ c,e=.returned (.tuple #[.agg (ai c v),.bool true])/\r.ownsRow W.heap.size 9 1 c v.path.length (Strs v.path)/\r7 W r from by have h:=k.o W U;rw[g]at h;exact h);have T:=F<|D.o v g;have z:=F<|λc W U=>YF.o v c W U g;clear g;go_enter func50,ntmps50
  go_upto_region 1 with fail
  rw[<-j.o]
  go_upto_region 2 with(first|(refine cR rfl (.tmp 1) rfl w.heap.size A u x.o rfl n.o ?_)|(go_at_call 11;refine(zG.o _ i.o).m ?_;rintro e w2 ⟨rfl,U⟩;have f:=F<|dw i.o U;have C2:=F<|n.o.keep U;clear U)|(go_at_call 33;refine(y.o _ f.o).m ?_;rintro e w3 ⟨c,rfl,o3,U⟩;have s:=F<|dw f.o U;have C3:=F<|C2.o.keep U;have R:=F<|ea o3 f.o.size;clear U o3)|(refine aM rfl 34 rfl _ _ (eD _) ?_)|(refine fL rfl (.tmp 3) (.tmp 9) rfl c v T.o (bm R.o) rfl rfl rfl ?_;intro w4 h4 U;have H4:=F h4;have l:=F<|dw s.o U;have C4:=F<|C3.o.keep U;have O4:=F<|own_below' R.o U;clear U h4))
  go_wp2_with (first|(refine cR rfl (.tmp 3) rfl w3.heap.size c v T.o rfl H4.o ?_)|(refine cR rfl (.tmp 1) rfl w.heap.size A u x.o rfl C4.o ?_)|(go_at_call 98;refine(z.o c _ l.o O4.o).m ?_;rintro e w5 ⟨q,rfl,hq,U⟩;have HQ:=F hq;have B5:=F<|dw l.o U;clear U hq))
  go_ret;refine⟨q,rfl,?_,B5.o⟩;rw[HQ.o];exact⟨λh=>by rw[h],λh=>bj h⟩
end Go.Proofs.YtajblocgpkpmeaaGreatDoor
set_option maxHeartbeats 40000000
namespace Go.Proofs.YtajblocgpkpmeaaGreatDoor
open Tryz
open Go.RowKit
set_option maxRecDepth 10000
theorem uy:∀ l:O,(l.count 0=0/\∀ x∈l,x≠0)\/∃ c B,l=c++0::B/\(∀x∈c,x≠0)/\Lib.indexByte l 0=(c.length:Nat)/\l.count 0=B.count 0+1
 | []=>.inl ⟨rfl,λ_ h=>(by cases h)⟩
 |x::r=>by
  by_cases X:x=0
  ·subst X
   exact .inr ⟨[],r,rfl,λ_ h=>(by cases h),by simp[Lib.indexByte],by rw[b5t]⟩
  rcases uy r with⟨Y,I⟩|⟨c,B,rfl,I,d,e⟩
  ·refine .inl ⟨by rw[xR X];exact Y,λy hy=>?_⟩
   rcases aK.mp hy with rfl|hy
   ·exact X
   exact I y hy
  refine .inr ⟨x::c,B,rfl,λy hy=>?_,?_,by rw[xR X];exact e⟩
  ·rcases aK.mp hy with rfl|hy
   ·exact X
   exact I y hy
  rw[Lib.indexByte];have U:(x==0)=false:=by simpa using X
  rw[d];simp only[U,cz]
  split <;>first|omega|(simp_all;done)|skip
theorem zy{raw c B:O}{st:Nat}(h:raw.drop st=c++0::B)(hA:∀ x∈c,x≠0):dY (raw.take (st+c.length+1))=dY (raw.take st)++c++ny/\raw.drop (st+c.length+1)=B:=by
 have d:raw.take (st+c.length+1)=raw.take st++(c++[0]):=by
  rw[EK,List.take_add,h]
  congr 1
  rw[show c++0::B=(c++[0])++B by simp,ko Oc]
 refine⟨?_,?_⟩
 ·rw[d,rD,rD,uH hA,<-List.append_assoc]
  rfl
 rw[EK,<-List.drop_drop,h,show c++0::B=(c++[0])++B by simp,Xf Oc]
theorem SS{raw:O}{st:Nat}(h:∀ x∈raw.drop st,x≠0):dY raw=dY (raw.take st)++raw.drop st:=by
 conv=>lhs;rw[<-List.take_append_drop st raw]
 rw[rD,uH h]
theorem qf:∀ l:O,(dY l).length=l.length+2*l.count 0
 | []=>rfl
 |x::r=>by
  show((if x=0 then ny else [x])++dY r).length=_;rw[ae,qf r];by_cases X:x=0
  ·subst X
   rw[if_pos rfl,b5t];show 3+_=_+1+_;omega
  rw[if_neg X,xR X];simp only[cz,aO];omega
end Go.Proofs.YtajblocgpkpmeaaGreatDoor
set_option maxHeartbeats 40000000
namespace Go.Proofs.YtajblocgpkpmeaaGreatDoor
open Tryz
open Go.RowKit
set_option maxRecDepth 10000
theorem a0G{k:Nat}(h:k<=22):KY (li k)=true:=VX ⟨k,M0⟩
theorem sE{P:Program}(w:H)(t:TypeId)(x y r:Nat)(h:Ieee.double.mul x y=some r):(binOp .mul t (.float .f64 x) (.float .f64 y)).run P w=.ok (.float .f64 r) w:=run_float_arith w .mul t .f64 x y r h
theorem Mm{P:Program}(w:H)(t:TypeId)(x y r:Nat)(h:Ieee.double.div x y=some r):(binOp .quo t (.float .f64 x) (.float .f64 y)).run P w=.ok (.float .f64 r) w:=run_float_arith w .quo t .f64 x y r h
theorem QX(x:Nat)(n:Int)(w:H)(X:okB x=true)(h0:-22<=n)(Y:n<=22) :
  bP prog 203 #[.float .f64 x,.int .i64 n] w (.float .f64 (moveB x n)):=by
 obtain⟨K,hK⟩:=V (n.natAbs);have h:K<=22:=M0;have hmx:(max n (-n):Int)=(K:Int):=M0;have hneg:IntKind.i64.wrap (-n)=-n:=IntWalk.i64_in _ M0;have hmul:∀ k,k<K->Ieee.double.mul (li k) 4621819117588971520=some (li (k+1)):=λk s=>Rr M0;have hone:li 0=4607182418800017408:=rfl;have hend:moveB x n=if n<0 then(Ieee.double.div x (li K)).getD 0 else(Ieee.double.mul x (li K)).getD 0:=by unfold moveB;rw[hK]
 have hfin:=a0G h;obtain⟨m,hm⟩:=a0t X hfin;obtain⟨d,hd⟩:=Zn X hfin;rw[hm,hd]at hend;generalize r:li K=p at hm hd hfin hend;have f:=F hmul;clear hmul;have l:=F r;clear r;have q:=F hone;clear hone;by_cases u:n<0
 ·rw[if_pos u]at hend
  rw[hend];have g:=F<|λ(W:H) (t:TypeId)=>Mm (P:=prog) W t x p d hd;clear hend hm hd hfin X hK;go_enter func203,ntmps203;go_wp2_with fail
  go_loopw [5,10] (λA iv wr=>∃ k:Nat,k<=K/\iv=.int .i64 k/\A=.float .f64 (li k)/\w=wr) (λ_ i _=>K-(intOf i).toNat)
  exact⟨0,M0,Oc,by rw[q.o],rfl⟩
  obtain⟨k,s,rfl,rfl,rfl⟩:=hrel;by_cases e:k<K
  ·have j:=λ(W:H) (t:TypeId)=>sE (P:=prog) W t (li k) 4621819117588971520 (li (k+1)) (f.o k e)
   have hlt2:(k:Int)<(K:Int):=M0;go_wp2_with fail;go_roundw
   exact⟨k+1,M0,Oc,Oc,by trivial⟩
   simp[intOf];omega
  obtain rfl:k=K:=M0;have c:=g.o;rw[<-l.o]at c;go_wp2_with fail;go_ret;exact⟨rfl,rfl⟩
 rw[if_neg u]at hend;rw[hend];have g:=F<|λ(W:H) (t:TypeId)=>sE (P:=prog) W t x p m hm;clear hend hm hd hfin X hK;go_enter func203,ntmps203;go_wp2_with fail
 go_loopw [5,10] (λA iv wr=>∃ k:Nat,k<=K/\iv=.int .i64 k/\A=.float .f64 (li k)/\w=wr) (λ_ i _=>K-(intOf i).toNat)
 exact⟨0,M0,Oc,by rw[q.o],rfl⟩
 obtain⟨k,s,rfl,rfl,rfl⟩:=hrel;by_cases e:k<K
 ·have j:=λ(W:H) (t:TypeId)=>sE (P:=prog) W t (li k) 4621819117588971520 (li (k+1)) (f.o k e)
  have hlt2:(k:Int)<(K:Int):=M0;go_wp2_with fail;go_roundw
  exact⟨k+1,M0,Oc,Oc,by trivial⟩
  simp[intOf];omega
 obtain rfl:k=K:=M0;have c:=g.o;rw[<-l.o]at c;go_wp2_with fail;go_ret;exact⟨rfl,rfl⟩
theorem Sm(l m:O)(w:H):bP prog 170 #[.string (E l),.string (E m)] w (S (Lib.trimPrefix l m)):=by
 have h:=Any.strings_TrimPrefix laysTP (E l) (E m) w;rw[show(E l).data.toList=l from cW l,show(E m).data.toList=m from cW m]at h;exact h
theorem hp1(x:UInt8)(l:O):Lib.hasPrefix l [x]=decide (l.head? = some x):=by
 cases l with
 |nil=>rfl
 |cons y r =>
  by_cases h:y=x
  ·subst h;simp[Lib.hasPrefix,List.isPrefixOf]
  have I:(x==y)=false:=by simpa using Ne.symm h
  simp[Lib.hasPrefix,List.isPrefixOf,I,h]
theorem tp1(x:UInt8)(l:O):Lib.trimPrefix l [x]=if l.head? = some x then l.drop 1 else l:=by
 unfold Lib.trimPrefix;rw[hp1];by_cases h:l.head? = some x
 ·rw[if_pos h,decide_eq_true h];rfl
 rw[if_neg h,decide_eq_false h];rfl
