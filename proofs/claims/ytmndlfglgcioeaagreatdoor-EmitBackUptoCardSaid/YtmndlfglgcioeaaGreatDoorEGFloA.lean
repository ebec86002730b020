/- number.move, number.exponent. -/
import Derived.Test.YtmndlfglgcioeaaGreatDoorEGWlkN
set_option maxHeartbeats 40000000
namespace Go.Proofs.YtmndlfglgcioeaaGreatDoor
open Tryz
open Go.RowKit
set_option maxRecDepth 10000
theorem a1m{k:Nat}(h:k<=22):Ma (me k)=true:=WX ⟨k,by omega⟩
theorem s5{P:Program}(w:World)(t:TypeId)(x y r:Nat)(h:Ieee.double.mul x y=some r):(binOp .mul t (.float .f64 x) (.float .f64 y)).run P w=.ok (.float .f64 r) w:=run_float_arith w .mul t .f64 x y r h
theorem Nt{P:Program}(w:World)(t:TypeId)(x y r:Nat)(h:Ieee.double.div x y=some r):(binOp .quo t (.float .f64 x) (.float .f64 y)).run P w=.ok (.float .f64 r) w:=run_float_arith w .quo t .f64 x y r h
theorem So(x:Nat)(n:Int)(w:World)(hx:okB x=true)(h0:-22<=n)(h1:n<=22) :
  bV prog 143 #[.float .f64 x,.int .i64 n] w (.float .f64 (moveB x n)):=by
 obtain⟨K,hK⟩:=az (n.natAbs);have hK2:K<=22:=by omega
 have hmx:(max n (-n):Int)=(K:Int):=by omega
 have hneg:IntKind.i64.wrap (-n)=-n:=IntWalk.i64_in _ (by omega);have hmul:∀ k,k<K->Ieee.double.mul (me k) 4621819117588971520=some (me (k+1)):=fun k hk=>SU (by omega);have hone:me 0=4607182418800017408:=rfl;have hend:moveB x n=if n<0 then(Ieee.double.div x (me K)).getD 0 else(Ieee.double.mul x (me K)).getD 0:=by unfold moveB;rw[hK]
 have hfin:=a1m hK2;obtain⟨m,hm⟩:=a08 hx hfin;obtain⟨d,hd⟩:=Z5 hx hfin;rw[hm,hd]at hend;generalize hP:me K=PK at hm hd hfin hend;have a2Y:=h_ hmul;clear hmul;have HP:=h_ hP;clear hP;have UR:=h_ hone;clear hone;by_cases hn:n<0
 ·rw[if_pos hn]at hend
  rw[hend];have HD:=h_ (fun(W:World) (t:TypeId)=>Nt (P:=prog) W t x PK d hd);clear hend hm hd hfin hx hK;go_enter func143,ntmps143
  go_wp2_with fail
  go_loopw [5,10] (fun pv iv wr=>∃ k:Nat,k<=K∧iv=.int .i64 k∧pv=.float .f64 (me k)∧w=wr) (fun _ i _=>K-(intOf i).toNat)
  case atStart=>exact⟨0,by omega,by simp,by rw[UR.out],rfl⟩
  case round =>
   obtain⟨k,hk,rfl,rfl,rfl⟩:=hrel;by_cases hlt:k<K
   ·have hmu:=fun(W:World) (t:TypeId)=>s5 (P:=prog) W t (me k) 4621819117588971520 (me (k+1)) (a2Y.out k hlt)
    have hlt2:(k:Int)<(K:Int):=by omega
    go_wp2_with fail
    go_roundw
    case rel=>exact⟨k+1,by omega,by simp,by simp,by trivial⟩
    case measure=>simp[intOf];omega
   obtain rfl:k=K:=by omega
   have hdd:=HD.out;rw[<-HP.out]at hdd
   go_wp2_with fail
   go_ret;exact⟨rfl,rfl⟩
 rw[if_neg hn]at hend;rw[hend];have HD:=h_ (fun(W:World) (t:TypeId)=>s5 (P:=prog) W t x PK m hm);clear hend hm hd hfin hx hK;go_enter func143,ntmps143
 go_wp2_with fail
 go_loopw [5,10] (fun pv iv wr=>∃ k:Nat,k<=K∧iv=.int .i64 k∧pv=.float .f64 (me k)∧w=wr) (fun _ i _=>K-(intOf i).toNat)
 case atStart=>exact⟨0,by omega,by simp,by rw[UR.out],rfl⟩
 case round =>
  obtain⟨k,hk,rfl,rfl,rfl⟩:=hrel;by_cases hlt:k<K
  ·have hmu:=fun(W:World) (t:TypeId)=>s5 (P:=prog) W t (me k) 4621819117588971520 (me (k+1)) (a2Y.out k hlt)
   have hlt2:(k:Int)<(K:Int):=by omega
   go_wp2_with fail
   go_roundw
   case rel=>exact⟨k+1,by omega,by simp,by simp,by trivial⟩
   case measure=>simp[intOf];omega
  obtain rfl:k=K:=by omega
  have hdd:=HD.out;rw[<-HP.out]at hdd
  go_wp2_with fail
  go_ret;exact⟨rfl,rfl⟩
theorem a1J(l m:Bytes)(w:World):bV prog 174 #[.string (bs l),.string (bs m)] w (S (Lib.trimPrefix l m)):=by
 have h:=Any.strings_TrimPrefix laysTP (bs l) (bs m) w;rw[show(bs l).data.toList=l from dR l,show(bs m).data.toList=m from dR m]at h;exact h
theorem hp1(x:UInt8)(l:Bytes):Lib.hasPrefix l [x]=decide (l.head? = some x):=by
 cases l with
 |nil=>rfl
 |cons y r =>
  by_cases h:y=x
  ·subst h;simp[Lib.hasPrefix,List.isPrefixOf]
  have h2:(x==y)=false:=by simpa using Ne.symm h
  simp[Lib.hasPrefix,List.isPrefixOf,h2,h]
theorem tp1(x:UInt8)(l:Bytes):Lib.trimPrefix l [x]=if l.head? = some x then l.drop 1 else l:=by
 unfold Lib.trimPrefix;rw[hp1];by_cases h:l.head? = some x
 ·rw[if_pos h,decide_eq_true h];rfl
 rw[if_neg h,decide_eq_false h];rfl
end Go.Proofs.YtmndlfglgcioeaaGreatDoor
