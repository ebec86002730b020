/- Joined texts. -/
import Derived.Test.YtpbnfjdkdfombaaGreatDoorGWlkY
import Derived.Lib.IndexLaws
import Derived.Lib.SlBuf
import Derived.Deep.CutBlock
set_option maxHeartbeats 40000000
namespace Go.Proofs.YtpbnfjdkdfombaaGreatDoor
open Tryz
open Go.RowKit
set_option maxRecDepth 10000
theorem Ds{s:O}{u:Url}(h:eF s=some u):u.host.six.length=8:=by
 unfold eF at h
 split at h
 ·exact ot (b:=U0) rfl h
 cases h
def a4x(t:ByteArray)(w:H):Option Url->Ending->H->Prop
 |none,e,w'=>e=.returned (.tuple #[.agg (ai aI U0),.bool false])/\r7 w w'
 |some u,e,w'=>∃ A,e=.returned (.tuple #[.agg (ai A u),.bool (decide (t.size<=300))])/\w'.ownsRow w.heap.size 9 1 A u.path.length (Strs u.path)/\r7 w w'
theorem a1z(t:ByteArray)(w:H)(ub:t.size<=1048576)(p:Env w):Calls prog 10 #[.string t] w (a4x t w (eF (ls t))):=by
 have hp:=λ(W:H) (z:r7 w W)=>xg (ls t) W (by rw[ec];omega) (p.below z);rw[kt]at hp;cases g:eF (ls t)with
 |none =>
  rw[g]at hp;have k:=F (show ∀W,r7 w W->bF prog 24 #[.string t] W (.tuple #[.agg (ai aI U0),.bool false])from hp);clear hp g p;go_enter func10,ntmps10
  go_upto_region 1 with(first
   |(refine aM rfl 34 rfl _ _ (eD _) ?_))
  have c:=F<|OB.fresh w 34 (ai aI U0);obtain⟨w1,a⟩:=V (w.alloc (.cells (ai aI U0) 34));rw[<-a]at c ⊢;clear a
  go_wp2_with (first
   |(go_at_call 24;refine(k.o _ c.o.bL).m ?_;rintro e w2 ⟨rfl,U⟩;have l:=F<|c.o.below U;clear U)
   |(refine aM rfl 34 rfl _ _ (eD _) ?_)
   |(refine fL rfl (.tmp 4) (.tmp 9) rfl aI U0 rfl rfl rfl rfl rfl ?_;intro B f U;have j:=F f;have n:=F<|l.o.below U;clear f U)
   |(refine cR r5 (.tmp 4) rfl _ aI U0 rfl rfl j.o ?_)
   |(refine fV rfl (.tmp 2) (.tmp 11) rfl w w.heap.size n.o aI U0 rfl rfl rfl rfl ?_;intro C i5 _;have d:=F i5;clear i5))
  exact xf (u:=U0) (q:=false) results10 rfl rfl rfl d.o ⟨rfl,d.o.bL⟩
 |some u =>
  rw[g]at hp;have k:=F (show ∀W,r7 w W->Calls prog 24 #[.string t] W λe h=>∃ A,e=.returned (.tuple #[.agg (ai A u),.bool true])/\h.ownsRow W.heap.size 9 1 A u.path.length (Strs u.path)/\r7 W h from hp);have i:=F<|Ds g;clear hp g p;obtain⟨q,r⟩:=V (decide (t.size<=300));show Calls _ _ _ _ λe h=>∃ A,e=.returned (.tuple #[.agg (ai A u),.bool (decide (t.size<=300))])/\h.ownsRow w.heap.size 9 1 A u.path.length (Strs u.path)/\r7 w h;rw[<-r];have hqi:decide ((t.size:Int)<=300)=q:=by rw[r,decide_eq_decide];omega
  clear r;cases q <;>
  ·go_enter func10,ntmps10
   go_upto_region 1 with(first
    |(refine aM rfl 34 rfl _ _ (eD _) ?_))
   have c:=F<|OB.fresh w 34 (ai aI U0);obtain⟨w1,a⟩:=V (w.alloc (.cells (ai aI U0) 34));rw[<-a]at c ⊢;clear a
   go_wp2_with (first
    |(go_at_call 24;refine(k.o _ c.o.bL).m ?_;rintro e w2 ⟨A,rfl,x,U⟩;have l:=F<|c.o.below U;have s:=F<|bd x (show w.heap.size+1<=_ from c.o.lt);clear U x)
    |(refine aM rfl 34 rfl _ _ (eD _) ?_)
    |(refine fL rfl (.tmp 4) (.tmp 9) rfl A u i.o (bm s.o) rfl rfl rfl ?_;intro B f U;have j:=F f;have n:=F<|l.o.below U;have v:=F<|own_below' s.o U;clear f U)
    |(refine cR r5 (.tmp 4) rfl _ A u i.o rfl j.o ?_)
    |(refine fV rfl (.tmp 2) (.tmp 11) rfl w w.heap.size n.o A u i.o (bm v.o) rfl rfl ?_;intro C i5 t5;have d:=F i5;have y:=F<|bd (t5.row v.o (bV _)) (gQ _);clear i5 t5))
   exact xf (u:=u) results10 i.o rfl rfl d.o ⟨A,rfl,y.o,d.o.bL⟩
end Go.Proofs.YtpbnfjdkdfombaaGreatDoor
set_option maxHeartbeats 40000000
namespace Go.Proofs.YtpbnfjdkdfombaaGreatDoor
open Tryz
open Go.RowKit
set_option maxRecDepth 10000
theorem xh(u:Url)(A:Z)(w:H)(h:zK u)(J:Sl w.heap.size w A (u.path.map S))(D:(dA u true).length<=1048576)(T:Env w)(hN:NE w):Calls prog 17 #[.agg (ai A u)] w λe p=>∃ q,e=.returned (.bool q)/\(q=true ↔ eF (dA u true)=some u)/\r7 w p:=by
 have N:=F<|λW (U:r7 w W)=>WB u A W h ((J.below U).more U.size) (hN.below U);have M:=F<|λW (U:r7 w W)=>xg (dA u true) W D (T.below U);have YF:=F<|λ(v:Url) (a:Z) W (U:r7 w W) (n:eF (dA u true)=some v) (o:W.ownsRow w.heap.size 9 1 a v.path.length (Strs v.path))=>RT v u a A W (B:=W.heap.size) (C:=w.heap.size) (Ds n) h.six (Sl.ew (sB o)) (J.below U) (ag _) U.size (by have:=(Sx (oG (L:=1048576) D M0 n) M0).1;omega) (by have:=h.E.1;omega);have z:=F<|λv (n:eF (dA u true)=some v)=>(Ds n);have s:=F h.six;obtain⟨t,K⟩:=V (E (dA u true));have zG:=F (show ∀W,r7 w W->bF prog 37 #[.agg (ai A u),.bool true] W (.string t)from by rw[K];exact N.o);have j:=F (show ∀W,r7 w W->Calls prog 24 #[.string t] W (uK W (eF (dA u true)))from by rw[K];exact M.o);clear h J D T hN K N M;have l:=F<|CB.new w 34 (ai A u);have g:=F<|(Below.refl w.heap.size w).alloc (ag _) (.cells (ai A u) 34);obtain⟨w1,c⟩:=V (w.alloc (.cells (ai A u) 34));rw[<-c]at l g;have i:=F c;clear c;cases f:eF (dA u true)with
 |none =>
  have x:=F<|λW U=>(show bF prog 24 #[.string t] W (.tuple #[.agg (ai aI U0),.bool false])from by have h:=j.o W U;rw[f]at h;exact h);clear f;go_enter func17,ntmps17
  go_upto_region 1 with fail
  rw[<-i.o]
  go_upto_region 2 with(first
   |(refine cR rfl (.tmp 1) rfl w.heap.size A u s.o rfl l.o ?_)
   |(go_at_call 37;refine(zG.o _ g.o).m ?_;rintro e w2 ⟨rfl,U⟩;have d:=F<|dw g.o U;clear U)
   |(go_at_call 24;refine(x.o _ d.o).m ?_;rintro e w3 ⟨rfl,U⟩;have r:=F<|dw d.o U;clear U)
   |(refine aM rfl 34 rfl _ _ (eD _) ?_)
   |(refine fL rfl (.tmp 3) (.tmp 9) rfl aI U0 rfl rfl rfl rfl rfl ?_;intro w4 _ U;have k:=F<|dw r.o U;clear U))
  go_wp2_with fail;go_ret;exact⟨_,rfl,⟨λh=>(by cases h),λh=>(by cases h)⟩,k.o⟩
 |some v =>
  have x:=F<|λW U=>(show Calls prog 24 #[.string t] W λe p=>∃ a,e=.returned (.tuple #[.agg (ai a v),.bool true])/\p.ownsRow W.heap.size 9 1 a v.path.length (Strs v.path)/\r7 W p from by have h:=j.o W U;rw[f]at h;exact h);have Q:=F<|z.o v f;have y:=F<|λa W U=>YF.o v a W U f;clear f;go_enter func17,ntmps17
  go_upto_region 1 with fail
  rw[<-i.o]
  go_upto_region 2 with(first
   |(refine cR rfl (.tmp 1) rfl w.heap.size A u s.o rfl l.o ?_)
   |(go_at_call 37;refine(zG.o _ g.o).m ?_;rintro e w2 ⟨rfl,U⟩;have d:=F<|dw g.o U;have C2:=F<|l.o.keep U;clear U)
   |(go_at_call 24;refine(x.o _ d.o).m ?_;rintro e w3 ⟨a,rfl,o3,U⟩;have r:=F<|dw d.o U;have C3:=F<|C2.o.keep U;have P:=F<|bd o3 d.o.size;clear U o3)
   |(refine aM rfl 34 rfl _ _ (eD _) ?_)
   |(refine fL rfl (.tmp 3) (.tmp 9) rfl a v Q.o (bm P.o) rfl rfl rfl ?_;intro w4 R U;have H4:=F R;have k:=F<|dw r.o U;have C4:=F<|C3.o.keep U;have O4:=F<|own_below' P.o U;clear U R))
  go_wp2_with (first
   |(refine cR rfl (.tmp 3) rfl w3.heap.size a v Q.o rfl H4.o ?_)
   |(refine cR rfl (.tmp 1) rfl w.heap.size A u s.o rfl C4.o ?_)
   |(go_at_call 19;refine(y.o a _ k.o O4.o).m ?_;rintro e w5 ⟨q,rfl,hq,U⟩;have HQ:=F hq;have B5:=F<|dw k.o U;clear U hq))
  go_ret;refine⟨q,rfl,?_,B5.o⟩;rw[HQ.o];exact⟨λh=>by rw[h],λh=>bj h⟩
end Go.Proofs.YtpbnfjdkdfombaaGreatDoor
set_option maxHeartbeats 40000000
namespace Go.Proofs.YtpbnfjdkdfombaaGreatDoor
open Tryz
open Go.RowKit
set_option maxRecDepth 10000
theorem uy:∀ l:O,(l.count 0=0/\∀ x∈l,x≠0)\/∃ a B,l=a++0::B/\(∀x∈a,x≠0)/\Lib.indexByte l 0=(a.length:Nat)/\l.count 0=B.count 0+1
 | []=>.inl ⟨rfl,λ_ h=>(by cases h)⟩
 |x::r=>by
  by_cases X:x=0
  ·subst X
   exact .inr ⟨[],r,rfl,λ_ h=>(by cases h),by simp[Lib.indexByte],by rw[b5t]⟩
  rcases uy r with⟨Y,I⟩|⟨a,B,rfl,I,c,d⟩
  ·refine .inl ⟨by rw[xR X];exact Y,λy hy=>?_⟩
   rcases aK.mp hy with rfl|hy
   ·exact X
   exact I y hy
  refine .inr ⟨x::a,B,rfl,λy hy=>?_,?_,by rw[xR X];exact d⟩
  ·rcases aK.mp hy with rfl|hy
   ·exact X
   exact I y hy
  rw[Lib.indexByte];have U:(x==0)=false:=by simpa using X
  rw[c];simp only[U,ah]
  split <;>first|omega|(simp_all;done)|skip
theorem zy{raw a B:O}{st:Nat}(h:raw.drop st=a++0::B)(hA:∀ x∈a,x≠0):dY (raw.take (st+a.length+1))=dY (raw.take st)++a++ny/\raw.drop (st+a.length+1)=B:=by
 have c:raw.take (st+a.length+1)=raw.take st++(a++[0]):=by
  rw[EK,List.take_add,h]
  congr 1
  rw[show a++0::B=(a++[0])++B by simp,ko Oc]
 refine⟨?_,?_⟩
 ·rw[c,rD,rD,uH hA,<-List.append_assoc]
  rfl
 rw[EK,<-List.drop_drop,h,show a++0::B=(a++[0])++B by simp,Xf Oc]
theorem SS{raw:O}{st:Nat}(h:∀ x∈raw.drop st,x≠0):dY raw=dY (raw.take st)++raw.drop st:=by
 conv=>lhs;rw[<-List.take_append_drop st raw]
 rw[rD,uH h]
theorem qf:∀ l:O,(dY l).length=l.length+2*l.count 0
 | []=>rfl
 |x::r=>by
  show((if x=0 then ny else [x])++dY r).length=_;rw[ae,qf r];by_cases X:x=0
  ·subst X
   rw[if_pos rfl,b5t];show 3+_=_+1+_;omega
  rw[if_neg X,xR X];simp only[ah,aO];omega
end Go.Proofs.YtpbnfjdkdfombaaGreatDoor
set_option maxHeartbeats 40000000
namespace Go.Proofs.YtpbnfjdkdfombaaGreatDoor
open Tryz
open Go.RowKit
set_option maxRecDepth 10000
theorem a0G{k:Nat}(h:k<=22):KY (li k)=true:=VX ⟨k,M0⟩
theorem sE{P:Program}(w:H)(t:TypeId)(x y r:Nat)(h:Ieee.double.mul x y=some r):(binOp .mul t (.float .f64 x) (.float .f64 y)).run P w=.ok (.float .f64 r) w:=run_float_arith w .mul t .f64 x y r h
theorem Mm{P:Program}(w:H)(t:TypeId)(x y r:Nat)(h:Ieee.double.div x y=some r):(binOp .quo t (.float .f64 x) (.float .f64 y)).run P w=.ok (.float .f64 r) w:=run_float_arith w .quo t .f64 x y r h
theorem QX(x:Nat)(n:Int)(w:H)(X:okB x=true)(h0:-22<=n)(Y:n<=22) :
  bP prog 198 #[.float .f64 x,.int .i64 n] w (.float .f64 (moveB x n)):=by
 obtain⟨K,hK⟩:=V (n.natAbs);have h:K<=22:=M0;have hmx:(max n (-n):Int)=(K:Int):=M0;have hneg:IntKind.i64.wrap (-n)=-n:=IntWalk.i64_in _ M0;have hmul:∀ k,k<K->Ieee.double.mul (li k) 4621819117588971520=some (li (k+1)):=λk s=>Rr M0;have hone:li 0=4607182418800017408:=rfl;have hend:moveB x n=if n<0 then(Ieee.double.div x (li K)).getD 0 else(Ieee.double.mul x (li K)).getD 0:=by unfold moveB;rw[hK]
 have hfin:=a0G h;obtain⟨m,hm⟩:=a0t X hfin;obtain⟨d,f⟩:=Zn X hfin;rw[hm,f]at hend;generalize r:li K=p at hm f hfin hend;have e:=F hmul;clear hmul;have l:=F r;clear r;have q:=F hone;clear hone;by_cases u:n<0
 ·rw[if_pos u]at hend
  rw[hend];have g:=F<|λ(W:H) (t:TypeId)=>Mm (P:=prog) W t x p d f;clear hend hm f hfin X hK;go_enter func198,ntmps198;go_wp2_with fail
  go_loopw [5,10] (λA iv wr=>∃ k:Nat,k<=K/\iv=.int .i64 k/\A=.float .f64 (li k)/\w=wr) (λ_ i _=>K-(intOf i).toNat)
  case atStart=>exact⟨0,M0,Oc,by rw[q.o],rfl⟩
  case round =>
   obtain⟨k,s,rfl,rfl,rfl⟩:=hrel;by_cases c:k<K
   ·have j:=λ(W:H) (t:TypeId)=>sE (P:=prog) W t (li k) 4621819117588971520 (li (k+1)) (e.o k c)
    have hlt2:(k:Int)<(K:Int):=M0;go_wp2_with fail;go_roundw
    case rel=>exact⟨k+1,M0,Oc,Oc,by trivial⟩
    case measure=>simp[intOf];omega
   obtain rfl:k=K:=M0;have a:=g.o;rw[<-l.o]at a;go_wp2_with fail;go_ret;exact⟨rfl,rfl⟩
 rw[if_neg u]at hend;rw[hend];have g:=F<|λ(W:H) (t:TypeId)=>sE (P:=prog) W t x p m hm;clear hend hm f hfin X hK;go_enter func198,ntmps198;go_wp2_with fail
 go_loopw [5,10] (λA iv wr=>∃ k:Nat,k<=K/\iv=.int .i64 k/\A=.float .f64 (li k)/\w=wr) (λ_ i _=>K-(intOf i).toNat)
 case atStart=>exact⟨0,M0,Oc,by rw[q.o],rfl⟩
 case round =>
  obtain⟨k,s,rfl,rfl,rfl⟩:=hrel;by_cases c:k<K
  ·have j:=λ(W:H) (t:TypeId)=>sE (P:=prog) W t (li k) 4621819117588971520 (li (k+1)) (e.o k c)
   have hlt2:(k:Int)<(K:Int):=M0;go_wp2_with fail;go_roundw
   case rel=>exact⟨k+1,M0,Oc,Oc,by trivial⟩
   case measure=>simp[intOf];omega
  obtain rfl:k=K:=M0;have a:=g.o;rw[<-l.o]at a;go_wp2_with fail;go_ret;exact⟨rfl,rfl⟩
theorem Sm(l m:O)(w:H):bP prog 66 #[.string (E l),.string (E m)] w (S (Lib.trimPrefix l m)):=by
 have h:=Any.strings_TrimPrefix laysTP (E l) (E m) w;rw[show(E l).data.toList=l from cW l,show(E m).data.toList=m from cW m]at h;exact h
theorem hp1(x:UInt8)(l:O):Lib.hasPrefix l [x]=decide (l.head? = some x):=by
 cases l with
 |nil=>rfl
 |cons y r =>
  by_cases h:y=x
  ·subst h;simp[Lib.hasPrefix,List.isPrefixOf]
  have I:(x==y)=false:=by simpa using Ne.symm h
  simp[Lib.hasPrefix,List.isPrefixOf,I,h]
theorem tp1(x:UInt8)(l:O):Lib.trimPrefix l [x]=if l.head? = some x then l.drop 1 else l:=by
 unfold Lib.trimPrefix;rw[hp1];by_cases h:l.head? = some x
 ·rw[if_pos h,decide_eq_true h];rfl
 rw[if_neg h,decide_eq_false h];rfl
end Go.Proofs.YtpbnfjdkdfombaaGreatDoor
set_option maxHeartbeats 40000000
namespace Go.Proofs.YtpbnfjdkdfombaaGreatDoor
open Tryz
open Go.RowKit
set_option maxRecDepth 10000
theorem BN{w0 W:H}{h N:Nat}{acc:O}(b:Lib.Buf w0 W h N acc):Lib.Buf w0 W.drew h N acc:=⟨b.below.drew,b.there,b.free,b.holds,b.fits⟩
theorem Oi(w:H)(N:Nat):Lib.Buf w (w.alloc (.cells (madeCells #[.int .u8 0] (N*1)) 5)) w.heap.size N [] where
 below:=(Below.refl _ _).alloc (ag _) _
 there:=λj hj=>by
  rw[World.cell?_alloc_mark,cK (by rw[size_madeCells];omega)];rfl
 free:=λj _=>by
  have:=World.frozen?_alloc_mark w (madeCells #[.int .u8 0] (N*1)) 5 0 0 j;rw[this];simp
 holds:=λj x X=>by simp at X
 fits:=aL _
def Eu(w:H)(b o:Nat)(l:O):Prop:=∀ (i:Nat) x,l[i]? = some x->w.cell? ⟨b,o+i,none⟩=some (.int .u8 (x.toNat:Int))
theorem Za{w:H}{b o:Nat}{l:O}(h:At w b o (Lib.byteCells l)):Eu w b o l:=by
 intro i x X;have hi:=(bh.1 X).1;have:=h i (by rw[Lib.byteCells_length];exact hi);rw[this];simp only[Lib.byteCells,cU];rw[(bh.1 X).2]
theorem BI{w:H}{b o:Nat}{l:O}(h:Eu w b o l)(a:Addr)(d:∀ i,a.add i=⟨b,o+i,none⟩)(c:Nat):Lib.HoldsBytes w (.slice (some a) l.length c) l :=
 ⟨some a,c,rfl,λh=>(by cases h),λa' e i x X=>(by
  obtain rfl:=bj e;rw[d];exact h i x X)⟩
theorem uS{w:H}{b o:Nat}{l:O}(h:Eu w b o l)(k:Nat):Eu w b (o+k) (l.drop k):=by
 intro i x X;rw[fz]at X;rw[EK];exact h (k+i) x X
theorem NZ{w:H}{b o:Nat}{l:O}(h:Eu w b o l)(k:Nat):Eu w b o (l.take k):=by
 intro i x X;refine h i x ?_;rw[kO]at X
 split at X
 ·exact X
 cases X
theorem pe:prog.elem 25=5:=Rz
theorem zo(w:H):(Go.sizeOf 5).run prog w=.ok 1 w:=Rz
theorem Hf:(prog.info? 5).map (·.size)=some 1:=Rz
theorem Ya(b o L c k:Nat)(hk:k<L)(hc:L<=c)(W:H):(Instr.slice 25 (.slice (some ⟨b,o,none⟩) L c) (some (.int .i64 (k:Int))) none none).run prog W=.ok (.slice (some ⟨b,o+k,none⟩) (L-k) (c-k)) W:=by
 have d:prog.underlying 25=some (.slice (prog.elem 25)):=by rw[pe];exact underlying25
 rw[run_slice_l W 25 _ _ _ d .i64 _ M0 M0,pe,zo];have a:¬ c=k:=M0;simp[Result.andThen,sliced,a,addr_add]
theorem X9(b o L c k j:Nat)(hk:k<c)(hkj:k<=j)(hj:j<=c)(W:H):(Instr.slice 25 (.slice (some ⟨b,o,none⟩) L c) (some (.int .i64 (k:Int))) (some (.int .i64 (j:Int))) none).run prog W=.ok (.slice (some ⟨b,o+k,none⟩) (j-k) (c-k)) W:=by
 have d:prog.underlying 25=some (.slice (prog.elem 25)):=by rw[pe];exact underlying25
 rw[run_slice_lh W 25 _ _ _ d .i64 .i64 _ _ M0 M0 M0,pe,zo];have a:¬ c=k:=M0;simp[Result.andThen,sliced,a,addr_add]
theorem a0K{w:H}{b o L c k:Nat}{l:O}(h:Eu w b o l)(f:l.length=L)(hk:k<=L)(j:L<=c):∃ e,Lib.HoldsBytes w e (l.drop k)/\∀ W,(Instr.slice 25 (.slice (some ⟨b,o,none⟩) L c) (some (.int .i64 (k:Int))) none none).run prog W=.ok e W:=by
 rcases cI k L with d|hge
 ·have g:=BI (uS h k) ⟨b,o+k,none⟩ (λi=>addr_add _ _ _) (c-k)
  rw[aj,f]at g;exact⟨_,g,Ya b o L c k d j⟩
 obtain rfl:k=L:=M0;have n:prog.underlying 25=some (.slice (prog.elem 25)):=by rw[pe];exact underlying25
 have m:l.drop k=[]:=by rw[<-f,dF]
 rw[m];refine⟨.slice (some (if c=k then⟨b,o,none⟩else(⟨b,o,none⟩:Addr).add (k*1))) 0 (c-k),⟨_,c-k,rfl,λ_=>rfl,λa _ i x X=>(by simp at X)⟩,λW=>?_⟩;rw[run_slice_l W 25 _ _ _ n .i64 _ M0 M0,pe,zo];simp only[Result.andThen,sliced]
 split <;>simp_all
def nums(l:O):List Int:=l.map λx=>(x.toNat:Int)
theorem yX(l:O):(nums l).length=l.length:=ay _
theorem tH(l:O):Lib.bytesOf (nums l)=l:=by
 unfold Lib.bytesOf nums;rw[lu]
 conv=>rhs;rw[<-List.map_id l]
 exact jJ λx _=>Oc
theorem BJ{w:H}{b o:Nat}{l:O}(h:Eu w b o l)(a:Addr)(c:∀ i,a.add i=⟨b,o+i,none⟩):∀ i,i<l.length->w.cell? (a.add i)=some (.int .u8 ((nums l).getD i 0)):=by
 intro i hi;rw[c,h i l[i] (aG hi)];simp[nums,List.getD,hi]
theorem EZ{w:H}{b o G:Nat}{l:O}(h:Eu w b o l)(c d:Nat)(e:w.cell? ⟨G,0,none⟩=some (.int .u8 0)) :
  bP prog 135 #[.slice (some ⟨b,o,none⟩) l.length c,.slice (some ⟨G,0,none⟩) 1 d] w (.int .i64 (l.count 0:Nat)):=by
 have a:=Any.bytes_Count_one_at laysBC ⟨b,o,none⟩ l.length c G 0 d (nums l) 0 w (yX l) (BJ h _ (λi=>addr_add _ _ _)) e;rw[tH]at a;exact a
theorem E8{w:H}{b o G:Nat}{l:O}(h:Eu w b o l)(c d:Nat)(e:w.cell? ⟨G,0,none⟩=some (.int .u8 0)) :
  bP prog 136 #[.slice (some ⟨b,o,none⟩) l.length c,.slice (some ⟨G,0,none⟩) 1 d] w (.int .i64 (Lib.indexByte l 0)):=by
 have a:=Any.bytes_Index_one_at laysBI ⟨b,o,none⟩ l.length c G 0 d (nums l) 0 w (yX l) (BJ h _ (λi=>addr_add _ _ _)) e;rw[tH]at a;exact a

theorem E0(c:Nat)(G d:Nat)(w:H)(hz:w.cell? ⟨G,0,none⟩=some (.int .u8 0)) :
  bP prog 135 #[.slice none 0 c,.slice (some ⟨G,0,none⟩) 1 d] w (.int .i64 0):=by
 go_enter func135,ntmps135
 go_wp2
 rw[run_callFunc_extern func169 Rz Rz Rz (e:=Extern.BytealgCount.count) Rz,Lib.run_countNil w 0 c 0];simp only[Result.andThen];rw[Oper.upon_value]
 go_wp2
 go_ret;exact⟨rfl,rfl⟩
theorem AU{B:Nat}{w:H}{v:Z}{l:O}(h:Sl B w v (Lib.byteCells l)):(l=[]/\∃ a c,v=.slice a 0 c)\/∃ b o c,b<B/\l.length<=c/\v=.slice (some ⟨b,o,none⟩) l.length c/\Eu w b o l:=by
 obtain⟨c,d,_,h⟩:=h;rw[Lib.byteCells_length]at d;rcases h with⟨f,a,rfl⟩|⟨b,o,U,rfl,e⟩
 ·exact .inl ⟨by simpa[Lib.byteCells]using f,a,c,rfl⟩
 exact .inr ⟨b,o,c,U,d,by rw[Lib.byteCells_length],Za e⟩
theorem Eu.keep{w c:H}{b o:Nat}{l:O}(h:Eu w b o l)(d:c.heap[b]? = w.heap[b]?):Eu c b o l :=
 λi x X=>(World.cell?_of_block (w:=w) (a:=⟨b,o+i,none⟩) d).trans (h i x X)
theorem Kr{w:H}{v:Z}{l:O}{G:Nat}(h:Sl w.heap.size w v (Lib.byteCells l))(d:Nat)(e:w.cell? ⟨G,0,none⟩=some (.int .u8 0)) :
  bP prog 135 #[v,.slice (some ⟨G,0,none⟩) 1 d] w (.int .i64 (l.count 0:Nat)):=by
 rcases AU h with⟨rfl,a,c,rfl⟩|⟨b,o,c,_,_,rfl,U⟩
 ·cases a with
  |none=>exact E0 c G d w e
  |some a=>exact Any.bytes_Count_one_at laysBC a 0 c G 0 d [] 0 w rfl (λi hi=>absurd hi (cL _)) e
 exact EZ U c d e
theorem Zf{w W:H}{N:Nat}{acc:O}(b:Lib.Buf w W w.heap.size N acc)(a:acc.length=N)(hm:N<=maxLen):Sl W.heap.size W (.slice (some ⟨w.heap.size,0,none⟩) N N) (Lib.byteCells acc):=by
 refine⟨N,by rw[Lib.byteCells_length,a];exact ag _,hm,?_⟩;by_cases h0:N=0
 ·subst h0
  have:acc=[]:=az a;subst this;exact .inl ⟨rfl,_,rfl⟩
 refine .inr ⟨w.heap.size,0,?_,by rw[Lib.byteCells_length,a],λj c=>?_⟩
 ·have:=b.there 0 (by omega)
  obtain⟨x,X⟩:=a6t.1 this;exact World.block_lt_of_cell? _ _ X
 rw[Lib.byteCells_length]at c;rw[bM,b.holds j acc[j] (aG c)];simp[Lib.byteCells]
theorem ST{l:O}{st p:Nat}{a B:O}(h:l.drop st=a++0::B)(hA:∀ x∈a,x≠0)(hp:a.length=p):(dY (l.take st)).length+p+3<=l.length+2*l.count 0:=by
 have Y:=(zy h hA).1;have I:=qf l
 have h3:(dY l).length=(dY (l.take (st+a.length+1))).length+(dY (l.drop (st+a.length+1))).length:=by
  rw[<-List.length_append,<-rD,cT]
 have h4:(dY (l.take (st+a.length+1))).length=(dY (l.take st)).length+p+3:=by
  rw[Y,ae,ae,hp];rfl
 omega
theorem zQ(l:O)(v nv:Z)(G d:Nat)(w:H)(h:Sl w.heap.size w v (Lib.byteCells l))(hl:l.length<=900000000)(hz:w.cell? ⟨G,0,none⟩=some (.int .u8 0))(hn:Lib.HoldsBytes w nv ny) :
  Calls prog 94 #[v,.slice (some ⟨G,0,none⟩) 1 d,nv,.int .i64 (-1)] w λe w'=>∃ v',e=.returned v'/\Sl w'.heap.size w' v' (Lib.byteCells (dY l))/\r7 w w':=by
 obtain⟨i8,tA,Bl,lK,nC⟩:=info_parts jn;have WS:=F<|Kr h d hz;have HNV:=F hn;obtain⟨pn,cn,hnv,_⟩:=hn;rw[show ny.length=3 from rfl]at hnv;subst hnv;obtain⟨R,hR⟩:=V (dY l);rw[<-hR];have HZ:=F hz;have hbz:G<w.heap.size:=World.block_lt_of_cell? _ _ hz;rcases uy l with⟨h0,s⟩|⟨A0,B0,y,Py,a9B,a38⟩
 ·have HR:=F (show R=l by rw[hR,uH s])
  obtain⟨v',w1,hr,ho,hg,_⟩:=rS (P:=prog) w 25 25 5 i8 underlying25 tA Bl lK nC (.slice none 0 0) 0 [] l (World.ownsRow_nil _ _ _ _) M0 w.heap.size v h;rw[h0]at WS;rw[bM,dg]at ho;have HS:=F<|Sl.ew ho;have HB:=F (show r7 w w1 from⟨hg.os,hg.tape,hg.output,hg.size,λk hk=>hg.block k hk (by simp[Value.ownBlock])⟩);have x:=F hr;clear hr ho hg h hR hz s h0;go_enter func94,ntmps94
  go_wp2_with (first
   |(go_at_call 135;refine(WS.o).m ?_;rintro e w2 ⟨rfl,hw⟩;subst w2)
   |(at_builtin;go_must (refine mj rfl (.const (.slice none 0 0)) (.tmp 24) _ _ rfl _ _ _ _ rfl rfl x.o ?_)))
  go_ret;exact⟨v',rfl,by rw[HR.o];exact HS.o,HB.o⟩
 rcases AU h with⟨rfl,_⟩|⟨b,o,c,U,J,rfl,hat⟩
 ·simp at y
 obtain⟨L,hL⟩:=V (l.length);obtain⟨n,hn⟩:=V (l.count 0);have hn1:1<=n:=M0;have hnL:n<=L:=by rw[hn,hL];exact List.count_le_length
 obtain⟨N,hN⟩:=V (L+2*n);rw[<-hL]at hl J WS ⊢;rw[<-hn]at WS;obtain⟨m2,hm2⟩:∃ m:Nat,m=2*n:=⟨_,rfl⟩;have hw1:IntKind.i64.wrap ((n:Int)*2)=(m2:Int):=by rw[IntWalk.i64_in _ M0];omega
 have hw2:IntKind.i64.wrap ((L:Int)+(m2:Int))=(N:Int):=by rw[IntWalk.i64_in _ M0];omega
 have hmk:=run_make (P:=prog) w 25 5 i8 (.int .u8 0) underlying25 tA Bl .i64 .i64 (N:Int) (N:Int) M0 (kQ _) (by rw[nC];omega) M0;rw[lK,eV]at hmk;have HBM:=F<|Oi w N;obtain⟨wm,hwm⟩:=V (w.alloc (.cells (madeCells #[.int .u8 0] (N*1)) 5));have a9M:(Instr.makeSlice 25 (.int .i64 (N:Int)) (.int .i64 (N:Int))).run prog w=.ok (.slice (some ⟨w.heap.size,0,none⟩) N N) wm:=by rw[hwm];exact hmk
 rw[<-hwm]at HBM;have hN3:N<=2700000000:=M0;have hN1:0<N:=M0;have hnz:((n:Int)==0)=false:=by simp;omega
 have b4P:¬ (n:Int)=0:=M0;have z:=F hat;have HL:=F hL;have HN:=F hn;have xm:=F hN;have x:=F hR;clear hmk hwm hm2 hat h hz hL hn hN hR y Py a9B a38;go_enter func94,ntmps94
 go_wp2_with (first
  |(go_at_call 135;refine(WS.o).m ?_;rintro e w2 ⟨rfl,hw⟩;subst w2))
 clear a9M WS
 go_loopw [11,12,13,49] (λwv sv _ iv wr=>∃ (k st a:Nat) (acc:O),k<=n/\st<=L/\iv=.int .i64 k/\sv=.int .i64 st/\wv=.int .i64 a/\Hid (acc.length=a)/\Hid (acc=dY (l.take st))/\Hid ((l.drop st).count 0+k=n)/\Hid (Lib.Buf w wr w.heap.size N acc)) (λ_ _ _ i _=>n-(intOf i).toNat)
 case atStart=>exact⟨0,0,0,[],aL _,aL _,rfl,rfl,rfl,F rfl,F rfl,F (by rw[dP,<-HN.o];rfl),HBM⟩
 case round =>
  obtain⟨k,st,a,acc,hk,hst,rfl,rfl,rfl,t,Yj,HC,HB⟩:=hrel;by_cases hkn:k<n
  ·rcases uy (l.drop st)with⟨h0,_⟩|⟨f,B,y,Py,T,hcnt⟩
   ·have:=HC.o;omega
   obtain⟨p,hp⟩:=V (f.length);have hfit:=ST y Py hp.symm;have hstep:=zy y Py;have Q:(l.drop st).length=L-st:=by rw[aj,HL.o]
   have hpl:p+1+B.length=L-st:=by rw[<-Q,y,hp];simp;omega
   have a3X:Eu _ b o l:=z.o.keep (HB.o.below.block b U);have hzw:=(HB.o.below.cell (p:=⟨G,0,none⟩) hbz).trans HZ.o;have W3:=E8 (uS a3X st) (c-st) d hzw;rw[Q,T,<-hp]at W3;replace W3:=F W3
   have Kc:=F (show Lib.HoldsBytes w (.slice (some ⟨b,o+st,none⟩) f.length (c-st)) f by
    have e:f=(l.drop st).take f.length:=by rw[y,ko rfl]
    have hh:=BI (NZ (uS z.o st) f.length) ⟨b,o+st,none⟩ (λi=>addr_add _ _ _) (c-st);rw[<-e]at hh;exact hh)
   rw[<-Yj.o,t.o,<-HL.o,<-HN.o,<-xm.o]at hfit;have C:=F (show acc.length+f.length<=N by rw[t.o,<-hp];omega);have HP:=F hp.symm;have hs1:=Ya b o L c st M0 J;have hs2:∀ W,(Instr.slice 25 (.slice (some ⟨w.heap.size,0,none⟩) N N) (some (.int .i64 (a:Int))) none none).run prog W=.ok (Lib.tailV w.heap.size N a) W:=λW=>Lib.run_slice_tailV W 25 5 underlying25 zo _ N a M0;obtain⟨j,hj⟩:=V (st+p);have hs3:=X9 b o L c st j M0 M0 M0;rw[show j-st=p by omega]at hs3;obtain⟨D,M⟩:=V (a+p);have hs4:∀ W,(Instr.slice 25 (.slice (some ⟨w.heap.size,0,none⟩) N N) (some (.int .i64 (D:Int))) none none).run prog W=.ok (Lib.tailV w.heap.size N D) W:=λW=>Lib.run_slice_tailV W 25 5 underlying25 zo _ N D M0;have hwj:IntKind.i64.wrap ((st:Int)+(p:Int))=(j:Int):=by rw[IntWalk.i64_in _ M0];omega
   have Qb:IntKind.i64.wrap ((a:Int)+(p:Int))=(D:Int):=by rw[IntWalk.i64_in _ M0];omega
   obtain⟨a2,ha2⟩:=V (D+3);have b4Y:IntKind.i64.wrap ((D:Int)+3)=(a2:Int):=by rw[IntWalk.i64_in _ M0];omega
   obtain⟨j1,hj1⟩:=V (j+1);have b40:IntKind.i64.wrap ((j:Int)+1)=(j1:Int):=by rw[IntWalk.i64_in _ M0];omega
   have a14:=F (show acc++f++ny=dY (l.take j1) by rw[Yj.o,hj1,hj,hp];exact hstep.1.symm)
   have Ei:=F (show(l.drop j1).count 0+(k+1)=n by
    have I:=HC.o;rw[hcnt]at I;rw[hj1,hj,hp,hstep.2];omega)
   have HLEN:=F (show(acc++f++ny).length=a2 by rw[ae,ae,t.o,<-hp,ha2,M];rfl);have a9C:j1<=L:=M0;have Hs:=F (show(acc++f).length=D by rw[ae,t.o,<-hp,M]);have Tw:=F (show(acc++f).length+ny.length<=N by rw[Hs.o,show ny.length=3 from rfl];omega);clear hfit hstep Q a3X hzw T hcnt y Py hp hj M ha2 hj1 hpl
   go_upto_region 15 with(first
    |(go_at_call 136;refine(W3.o).m ?_;rintro e w3 ⟨rfl,hw⟩;subst w3))
   refine wp_region_held_drew (S:=λ_=>True) Rz (by exact trivial) (λhHeld=>?_);refine ek 0 ?_;refine ek 1 ?_;refine ek 2 ?_;refine ek 3 ?_;refine ek 4 ?_;refine ek 5 ?_;refine ek 6 ?_;refine ek 7 ?_;refine rn 8 Rz rfl r5 (λK hK=>?_);obtain⟨w2,g,B2⟩:=Lib.copy_part (P:=prog) w _ w.heap.size N acc f (.slice (some ⟨b,o+st,none⟩) f.length (c-st)) 25 3 5 underlying25 Hf (ag _) (BN HB.o) Kc.o C.o;rw[HP.o,t.o]at g;refine Lib.wp_copy_run _ (.tmp 61) (.tmp 65) 25 25 rfl _ _ rfl rfl g ?_;have u:=F B2;clear B2 g;refine hK.out _ _ ?_ (λhHeld=>?_)
   ·exact trivial
   clear hK K
   try simp only[Act.put,fH,fI,fJ]
   refine ek 9 ?_;refine ek 10 ?_;refine wpAnyH_done Rz ?_ _;obtain⟨w3,hr3,B3⟩:=Lib.copy_part (P:=prog) w _ w.heap.size N (acc++f) ny (.slice pn 3 cn) 25 3 5 underlying25 Hf (ag _) u.o HNV.o Tw.o;rw[Hs.o,show ny.length=3 from rfl]at hr3;have HB3:=F B3;have HR3:=F hr3;clear B3 hr3
   go_wp2_with (first
    |(refine Lib.wpList_copy_run _ rfl (.tmp 71) (.tmp 72) 25 25 rfl _ _ rfl rfl HR3.o ?_))
   go_roundw
   case rel=>exact⟨k+1,j1,a2,acc++f++ny,M0,a9C,by go_num,rfl,rfl,HLEN,a14,Ei,HB3⟩
   case measure=>simp[intOf];omega
  obtain rfl:k=n:=M0;rcases uy (l.drop st)with⟨_,s⟩|⟨f,B,y,Py,T,hcnt⟩;rotate_left
  ·have:=HC.o;omega
  have Bw:=F (show R=acc++l.drop st by rw[x.o,Yj.o];exact SS s);have r:R.length=N:=by rw[x.o,qf,<-HN.o,<-HL.o,xm.o]
  obtain⟨fv,hfv,hsf⟩:=a0K z.o HL.o.symm hst J;have hs2:∀ W,(Instr.slice 25 (.slice (some ⟨w.heap.size,0,none⟩) N N) (some (.int .i64 (a:Int))) none none).run prog W=.ok (Lib.tailV w.heap.size N a) W:=λW=>Lib.run_slice_tailV W 25 5 underlying25 zo _ N a (by have Y:=Bw.o;rw[Y,ae,t.o]at r;omega);have hs5:∀ W,(Instr.slice 25 (.slice (some ⟨w.heap.size,0,none⟩) N N) (some (.int .i64 0)) (some (.int .i64 (N:Int))) none).run prog W=.ok (.slice (some ⟨w.heap.size,0,none⟩) N N) W:=X9 w.heap.size 0 N N 0 N hN1 (aL _) (ag _);obtain⟨q,hq⟩:=V ((l.drop st).length);have haq:a+q=N:=by have Y:=Bw.o;rw[Y,ae,t.o,<-hq]at r;exact r
  have hwq:IntKind.i64.wrap ((a:Int)+(q:Int))=(N:Int):=by rw[IntWalk.i64_in _ M0];omega
  have HFV:=F hfv;have HQ:=F hq.symm;have C:=F (show acc.length+(l.drop st).length<=N by rw[t.o,<-hq];omega);have EF:=F (show(acc++l.drop st).length=N by rw[<-Bw.o];exact r);clear hfv hq r s haq
  go_upto_region 28 with fail
  refine wp_region_held_drew (S:=λ_=>True) Rz (by exact trivial) (λhHeld=>?_);refine ek 0 ?_;refine ek 1 ?_;refine ek 2 ?_;refine ek 3 ?_;refine ek 4 ?_;refine ek 5 ?_;refine ek 6 ?_;refine rn 7 Rz rfl r5 (λK hK=>?_);obtain⟨w2,g,B2⟩:=Lib.copy_part (P:=prog) w _ w.heap.size N acc (l.drop st) fv 25 3 5 underlying25 Hf (ag _) (BN HB.o) HFV.o C.o;rw[HQ.o,t.o]at g;refine Lib.wp_copy_run _ (.tmp 123) (.tmp 126) 25 25 rfl _ _ rfl rfl g ?_;have u:=F B2;clear B2 g;refine hK.out _ _ ?_ (λhHeld=>?_)
  ·exact trivial
  clear hK K
  try simp only[Act.put,fH,fI,fJ]
  refine ek 8 ?_;refine ek 9 ?_;refine wpAnyH_done Rz ?_ _;go_wp2_with fail;go_ret;exact⟨_,rfl,by rw[Bw.o];exact Zf u.o EF.o (by unfold maxLen;omega),u.o.below⟩
