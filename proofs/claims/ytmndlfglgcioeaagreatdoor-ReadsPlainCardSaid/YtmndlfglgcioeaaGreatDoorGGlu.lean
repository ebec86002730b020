/- Slices of slices, and rows that are glued from several: append(a, b...), of any elements of one cell. No program stands in it. -/
import Derived.Maps.AppendAt
import Derived.Test.YtmndlfglgcioeaaGreatDoorGBase
set_option maxHeartbeats 40000000
namespace Go.Proofs.YtmndlfglgcioeaaGreatDoor
open Go.RowKit
set_option maxRecDepth 10000
theorem FW (a:Option Addr) (b o:Nat) (h:a=some ⟨b,o,none⟩) (j:Nat):a.map (·.add j)=some ⟨b,o+j,none⟩:=by
 subst h;rw[uN,addr_add]
theorem Sl.cut {B:Nat} {w:World} {a:Option Addr} {n c:Nat} {xs:List Value} (h:Sl B w (.slice a n c) xs) (l k:Nat) (hlk:l<=k) (hk:k<=n):Sl B w (sliced a l k c 1) ((xs.drop l).take (k-l)):=by
 obtain⟨c',h1,h2,h⟩:=h
 unfold sliced
 rcases h with⟨hn,a',hv⟩|⟨b,o,hb,hv,ha⟩
 ·injection hv with e1 e2 e3
  subst e3
  subst hn
  subst e2
  refine⟨c-l,by simp,by omega,.inl ⟨by simp,(if c=l then a else a.map (·.add (l*1))),?_⟩⟩
  rw[show k-l=0 by omega]
 injection hv with e1 e2 e3
 subst e3
 have hlen:((xs.drop l).take (k-l)).length=k-l:=by rw[aA,ai];omega
 by_cases hc:c=l
 ·have h0:k-l=0:=by omega
  refine⟨c-l,by rw[hlen];omega,by omega,.inl ⟨by rw[h0];simp,a,?_⟩⟩
  rw[h0,if_pos hc]
 rw[if_neg hc]
 refine⟨c-l,by rw[hlen];omega,by omega,.inr ⟨b,o+l,hb,?_,fun j hj=>?_⟩⟩
 ·rw[FW a b o e1,Nat.mul_one,hlen]
 rw[hlen]at hj
 have:=ha (l+j) (by omega)
 rw[lK,this]
 simp
theorem Nw {P:Program} {e:TypeId} {i:TypeInfo} (hi:P.info? e=some i) (hsize:i.size=1) (w:World):(sizeOf e).run P w=.ok 1 w:=by
 simp[sizeOf,typeInfo,hi,hsize]
section
variable {P:Program} {t:TypeId} {i:TypeInfo} (ht:P.underlying t=some (.slice (P.elem t))) (hi:P.info? (P.elem t)=some i) (hsize:i.size=1)
include ht hi hsize
end
theorem Sl.val {B:Nat} {w:World} {v:Value} {xs:List Value} (h:Sl B w v xs):∃ a c,v=.slice a xs.length c:=by
 obtain⟨c',h1,h2,h⟩:=h
 rcases h with⟨hn,a',hv⟩|⟨b,o,hb,hv,ha⟩
 ·exact⟨_,_,by rw[hv,hn];rfl⟩
 exact⟨_,_,hv⟩
end Go.Proofs.YtmndlfglgcioeaaGreatDoor
