/- Steps through a region that draws its order, in few words: over the kit's 'wpAnyH'. No program stands in it. -/
import Derived.Deep.RegionHeld3
import Derived.Test.YtmndlfglgcioeaaGreatDoorEGBase
set_option maxHeartbeats 40000000
namespace Go.Proofs.YtmndlfglgcioeaaGreatDoor
open Go.RowKit
set_option maxRecDepth 10000
def nth{α:Type}:List α->Nat->Option α
 | [],_=>none
 |x::_,0=>some x
 |_::r,n+1=>nth r n
theorem Hm{α:Type}:∀ (l:List α) (i:Nat) (o:α),nth l i=some o->l.toArray[i]? = some o
 | [],_,_,h=>by cases h
 |x::r,0,o,h=>by simpa[nth]using h
 |x::r,n+1,o,h=>by
  have:=Hm r n o h
  simpa using this
section
variable {P:Program} {l:List Oper} {Q:Exit->Act->World->Prop} {S:World->Prop} {fuel:Nat} {listed:Array Bool} {a:Act} {w:World}
theorem tk(i:Nat){oi:Oper}{v:Value}(hi:nth l i=some oi)
  (hs:Region.noSelect l.toArray=true) (hf:Region.free .any l.toArray listed i=true) (hr:(Region.ready .any l.toArray listed).contains i=true)
  (hQ:∀ c a w,Q (.panic c) (a.put oi.dst v) w->Q (.panic c) a w) (hg:Region.wanted oi (yielded l.toArray a.tmps)=true) (hS:S w)
  (hy:∀ w,S w->(execOp a.eval oi).run P w=.ok (.value v) w)
  (h:wpAnyH P .any l.toArray Q S fuel (listed.setIfInBounds i true) (a.put oi.dst v) w):wpAnyH P .any l.toArray Q S (fuel+1) listed a w :=
 wpAnyH_take (Hm _ _ _ hi) hs hf hr hQ (Or.inl ⟨hg,hy⟩) hS h
theorem tq(i:Nat){oi:Oper}(hi:nth l i=some oi)(v:Value)(hy:∀ w,S w->(execOp a.eval oi).run P w=.ok (.value v) w)
 (h:wpAnyH P .any l.toArray Q S fuel (listed.setIfInBounds i true) (a.put oi.dst v) w)
 (hs:Region.noSelect l.toArray=true:=by kernel_rfl) (hf:Region.free .any l.toArray listed i=true:=by kernel_rfl) (hr:(Region.ready .any l.toArray listed).contains i=true:=by kernel_rfl)
 (hQ:∀ c a w,Q (.panic c) (a.put oi.dst v) w->Q (.panic c) a w:=by exact fun _ _ _ h=>h) (hg:Region.wanted oi (yielded l.toArray a.tmps)=true:=by rfl) (hS:S w:=by assumption):wpAnyH P .any l.toArray Q S (fuel+1) listed a w :=
 tk i (v:=v) hi hs hf hr hQ hg hS hy h
theorem rn(i:Nat){oi:Oper}(hr:Region.ready .any l.toArray listed=[i])(hi:nth l i=some oi)(hg:Region.wanted oi (yielded l.toArray a.tmps)=true)
  (h:∀ K':Act->World->Prop,Shut (∀a w,S w->(S w->wpAnyH P .any l.toArray Q S fuel (listed.setIfInBounds i true) a w)->K' a w)->Oper.wp P oi a w K' Q) :
  wpAnyH P .any l.toArray Q S (fuel+1) listed a w :=
 wpAnyH_ready (rs:=[i]) hr (by simp) (AllReadyH.cons (Hm _ _ _ hi) (fun K hK=>by rw[if_pos hg];exact h K hK) AllReadyH.nil)
end
end Go.Proofs.YtmndlfglgcioeaaGreatDoor
