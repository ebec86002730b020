/- The reference's Same (layer 1): two rows of texts. -/
import Derived.Test.YtmndlfglgcioeaaGreatDoorEGSixF
set_option maxHeartbeats 40000000
namespace Go.Proofs.YtmndlfglgcioeaaGreatDoor
open Tryz
open Go.RowKit
set_option maxRecDepth 10000
theorem Iu{xs ys:List Bytes}{k:Nat}(h1:k<xs.length)(h2:k<ys.length)(ht:xs.take k=ys.take k)(he:xs[k]=ys[k]):xs.take (k+1)=ys.take (k+1):=by
 rw[aI h1,aI h2,ht,he]
theorem ED(xs ys:List Bytes)(c1 c2:Nat)(w:World)(hl:xs.length=ys.length)(hm:xs.length<=maxLen)(b1 o1 b2 o2:Nat)
  (h1:At w b1 o1 (xs.map S)) (h2:At w b2 o2 (ys.map S)) :
  bN prog 15 #[.slice (some ⟨b1,o1,none⟩) xs.length c1,.slice (some ⟨b2,o2,none⟩) ys.length c2] w (.bool (decide (xs=ys))):=by
 unfold maxLen at hm;have HL:=h_ hl;obtain⟨n,hn⟩:=az (xs.length);have hn2:n=ys.length:=by omega
 rw[<-hn,<-hn2];rw[<-hn]at hm;have HN:=h_ hn;clear hn;have ow:=h_ hn2;clear hn2 hl;have hne:((n:Int) != n)=false:=by simp
 go_enter func15,ntmps15
 go_wp2
 go_loopw [5] (fun i wr=>∃ k d:Nat,k<=n∧i=.int .i64 k∧xs.take k=ys.take k∧wr=w.drewN d) (fun i _=>n-(intOf i).toNat)
 case atStart=>exact⟨0,0,aK _,rfl,by simp,rfl⟩
 case round =>
  obtain⟨k,d,hk,rfl,ht,rfl⟩:=hrel;have HT:=h_ ht;clear ht;by_cases hlt:k<n
  ·have hx:k<xs.length:=by have:=HN.out;omega
   have hy:k<ys.length:=by have:=ow.out;omega
   have hc1:w.cell? ⟨b1,o1+k,none⟩=some (.string (bs xs[k])):=by rw[h1 k (by simpa using hx),cR]
   have hc2:w.cell? ⟨b2,o2+k,none⟩=some (.string (bs ys[k])):=by rw[h2 k (by simpa using hy),cR]
   have heq:=yC xs[k] ys[k];have HE0:=h_ (show ∀_:xs[k]=ys[k],xs.take (k+1)=ys.take (k+1)from fun he=>Iu hx hy HT.out he);have HF0:=h_ (show ∀_:¬ xs[k]=ys[k],decide (xs=ys)=false from fun he=>decide_eq_false fun h=>he (by subst h;rfl));obtain⟨x,mZ⟩:=az (bs xs[k]);obtain⟨y,hyy⟩:=az (bs ys[k]);rw[<-mZ]at hc1 heq;rw[<-hyy]at hc2 heq;clear mZ hyy;by_cases he:xs[k]=ys[k]
   ·rw[decide_eq_true he]at heq
    have he':(x.toList != y.toList)=false:=by unfold bne;rw[heq];rfl
    have HE:=h_ (HE0.out he);clear he HE0 HF0
    go_wp2
    go_quiet (fail)
    go_wp2
    go_roundw
    case rel=>exact⟨k+1,_,by omega,by go_num,HE.out,rfl⟩
    case measure=>simp[intOf];omega
   rw[decide_eq_false he]at heq;have he':(x.toList != y.toList)=true:=by unfold bne;rw[heq];rfl
   have HF:=h_ (HF0.out he);clear he HE0 HF0
   go_wp2
   go_quiet (fail)
   go_wp2
   go_ret;exact⟨dX HF.out.symm,ei (ei (Below.refl _ _) _) _⟩
  go_wp2
  go_ret;refine⟨dX ?_,ei (Below.refl _ _) _⟩;have e1:=HN.out;have e2:=ow.out;have h:=HT.out;rw[aP (by omega),aP (by omega)]at h;simp[h]
theorem mf(xs ys:List Bytes)(A1 A2:Option Addr)(c1 c2:Nat)(w:World)(hl:xs.length≠ys.length) :
  bN prog 15 #[.slice A1 xs.length c1,.slice A2 ys.length c2] w (.bool (decide (xs=ys))):=by
 have hfin:decide (xs=ys)=false:=by
  rw[decide_eq_false_iff_not];intro h;exact hl (by rw[h])
 have HF:=h_ hfin;clear hfin;obtain⟨n,hn⟩:=az (xs.length);obtain⟨m,hm⟩:=az (ys.length);rw[<-hn,<-hm]at hl;rw[<-hn,<-hm];clear hn hm;have hne:((n:Int) != m)=true:=by simp;omega
 clear hl;go_enter func15,ntmps15
 go_wp2
 go_ret;exact⟨dX HF.out.symm,Below.refl _ _⟩
theorem EE(A1 A2:Option Addr)(c1 c2:Nat)(w:World) :
  bN prog 15 #[.slice A1 0 c1,.slice A2 0 c2] w (.bool true):=by
 go_enter func15,ntmps15
 go_wp2
 refine wp_loop_rounds 1 ?_;rw[rounds_succ]
 go_wp2
 go_ret;exact⟨rfl,Below.refl _ _⟩
theorem xC(xs ys:List Bytes)(v1 v2:Value)(w:World)(B1 B2:Nat)(h1:Sl B1 w v1 (xs.map S))(h2:Sl B2 w v2 (ys.map S)) :
  bN prog 15 #[v1,v2] w (.bool (decide (xs=ys))):=by
 obtain⟨c1,hc1,hm1,h1⟩:=h1;obtain⟨c2,hc2,hm2,h2⟩:=h2;have e1:(xs.map S).length=xs.length:=by simp
 have e2:(ys.map S).length=ys.length:=by simp
 rw[e1]at hc1 h1;rw[e2]at hc2 h2
 have none_:∀ a1 a2 d1 d2,bN prog 15 #[.slice a1 0 d1,.slice a2 0 d2] w (.bool (decide (([]:List Bytes)=[]))) :=
  fun a1 a2 d1 d2=>(EE a1 a2 d1 d2 w).mono fun e w' h=>⟨by rw[h.1];simp,h.2⟩
 by_cases hl:xs.length=ys.length
 ·rcases h1 with⟨hn,a1,rfl⟩|⟨b1,o1,_,rfl,ha1⟩
  ·obtain rfl:xs=[]:=by simpa using hn
   obtain rfl:ys=[]:=ak (by simpa using hl.symm);rcases h2 with⟨_,a2,rfl⟩|⟨b2,o2,_,rfl,ha2⟩
   ·exact none_ _ _ _ _
   exact none_ _ _ _ _
  rcases h2 with⟨hn,a2,rfl⟩|⟨b2,o2,_,rfl,ha2⟩
  ·obtain rfl:ys=[]:=by simpa using hn
   obtain rfl:xs=[]:=ak (by simpa using hl);exact none_ _ _ _ _
  exact ED xs ys c1 c2 w hl (by omega) b1 o1 b2 o2 ha1 ha2
 rcases h1 with⟨hn,a1,rfl⟩|⟨b1,o1,_,rfl,ha1⟩
 ·obtain rfl:xs=[]:=by simpa using hn
  rcases h2 with⟨hn,a2,rfl⟩|⟨b2,o2,_,rfl,ha2⟩
  ·obtain rfl:ys=[]:=by simpa using hn
   exact absurd rfl hl
  simp only[aN]at *;exact mf [] ys _ _ _ _ w hl
 rcases h2 with⟨hn,a2,rfl⟩|⟨b2,o2,_,rfl,ha2⟩
 ·obtain rfl:ys=[]:=by simpa using hn
  exact mf xs [] _ _ _ _ w hl
 exact mf xs ys _ _ _ _ w hl
end Go.Proofs.YtmndlfglgcioeaaGreatDoor
