/- The reference's Decode of layer 7. -/
import Derived.Test.YtmndlfglgcioeaaGreatDoorGPunJ
import Derived.Test.YtmndlfglgcioeaaGreatDoorGGlu
set_option maxHeartbeats 40000000
namespace Go.Proofs.YtmndlfglgcioeaaGreatDoor
open Go.RowKit
set_option maxRecDepth 10000
def Cut (s:Bytes) (k c:Nat):Prop:=(c=0∧∀ j (h:j<s.length),1<=j->j<k->b2 s[j]≠45)∨(1<=c∧c<k∧(∃h:c<s.length,b2 s[c]=45)∧∀ j (h:j<s.length),c<j->j<k->b2 s[j]≠45)
theorem Cut.new {s:Bytes} {k c:Nat} (_:Cut s k c) (hk:1<=k) (hx:k<s.length) (he:b2 s[k]=45):Cut s (k+1) k :=
 .inr ⟨hk,by omega,⟨hx,he⟩,fun j _ h1 h2=>by omega⟩
theorem Cut.same {s:Bytes} {k c:Nat} (h:Cut s k c) (hx:k<s.length) (he:b2 s[k]≠45):Cut s (k+1) c:=by
 rcases h with⟨h1,h2⟩|⟨h1,h2,h3,h4⟩
 ·refine .inl ⟨h1,fun j hj h5 h6=>?_⟩
  by_cases hjk:j=k
  ·subst hjk;exact he
  exact h2 j hj h5 (by omega)
 refine .inr ⟨h1,by omega,h3,fun j hj h5 h6=>?_⟩
 by_cases hjk:j=k
 ·subst hjk;exact he
 exact h4 j hj h5 (by omega)
theorem Cut.done {s:Bytes} {k c:Nat} (h:Cut s k c) (hk:s.length<=k):(c=0∧rE s<=0)∨(0<c∧rE s=c∧c<s.length):=by
 have hat:∀ j (hj:j<s.length),(((bs s).data[j]!).toNat:Int)=b2 s[j]:=fun j hj=>byte_at s j hj
 unfold rE Lib.lastIndexByte
 rcases Lib.lastIdx_spec (bs s) 45 (bs s).size with⟨e,hn⟩|⟨i,hi,e,hc,hn⟩
 ·rw[aB]at hn
  rcases h with⟨h1,_⟩|⟨h1,h2,⟨h3,h4⟩,_⟩
  ·exact .inl ⟨h1,by rw[aB]at e ⊢;omega⟩
  exact absurd ((hat c h3).trans h4) (hn c h3)
 rw[aB]at hi hn
 rw[hat i hi]at hc
 rcases h with⟨h1,h2⟩|⟨h1,h2,⟨h3,h4⟩,h5⟩
 ·left
  refine⟨h1,?_⟩
  rw[e]
  by_cases h0:1<=i
  ·exact absurd hc (h2 i hi h0 (by omega))
  omega
 right
 refine⟨by omega,?_,h3⟩
 rw[e]
 by_cases h6:c<i
 ·exact absurd hc (h5 i hi h6 (by omega))
 by_cases h7:i<c
 ·exact absurd ((hat c h3).trans h4) (hn c h7 h3)
 omega
end Go.Proofs.YtmndlfglgcioeaaGreatDoor
