/- Steps through a region that draws its order, in few words: over the kit's 'wpAnyH'. No program stands in it. -/
import Derived.Deep.RegionHeld3
import Derived.Test.YtpckaimpjccjhaaGreatDoorGBase
set_option maxHeartbeats 40000000
namespace Go.Proofs.YtpckaimpjccjhaaGreatDoor
open Go.RowKit
set_option maxRecDepth 10000
def nth {α : Type} : List α -> Nat -> Option α
 | [], _ => none
 | x :: _, 0 => some x
 | _ :: r, n + 1 => nth r n
theorem nth_eq {α : Type} : ∀ (l : List α) (i : Nat) (o : α), nth l i = some o -> l.toArray[i]? = some o
 | [], _, _, h => by cases h
 | x :: r, 0, o, h => by simpa [nth] using h
 | x :: r, n + 1, o, h => by
  have := nth_eq r n o h
  simpa using this
section
variable {P : Program} {l : List Oper} {Q : Exit -> Act -> World -> Prop} {S : World -> Prop} {fuel : Nat} {listed : Array Bool} {a : Act} {w : World}
theorem tk (i : Nat) {oi : Oper} {v : Value} (hi : nth l i = some oi)
  (hs : Region.noSelect l.toArray = true) (hf : Region.free .any l.toArray listed i = true) (hr : (Region.ready .any l.toArray listed).contains i = true)
  (hQ : ∀ c a w, Q (.panic c) (a.put oi.dst v) w -> Q (.panic c) a w) (hg : Region.wanted oi (yielded l.toArray a.tmps) = true) (hS : S w)
  (hy : ∀ w, S w -> (execOp a.eval oi).run P w = .ok (.value v) w)
  (h : wpAnyH P .any l.toArray Q S fuel (listed.setIfInBounds i true) (a.put oi.dst v) w) : wpAnyH P .any l.toArray Q S (fuel + 1) listed a w :=
 wpAnyH_take (nth_eq _ _ _ hi) hs hf hr hQ (Or.inl ⟨hg, hy⟩) hS h
theorem sk (i : Nat) {oi : Oper} (hi : nth l i = some oi)
  (hs : Region.noSelect l.toArray = true) (hf : Region.free .any l.toArray listed i = true) (hr : (Region.ready .any l.toArray listed).contains i = true)
  (hQ : ∀ c a w, Q (.panic c) (a.put oi.dst undef) w -> Q (.panic c) a w) (hg : Region.wanted oi (yielded l.toArray a.tmps) = false) (hS : S w)
  (h : wpAnyH P .any l.toArray Q S fuel (listed.setIfInBounds i true) (a.put oi.dst undef) w) : wpAnyH P .any l.toArray Q S (fuel + 1) listed a w :=
 wpAnyH_take (nth_eq _ _ _ hi) hs hf hr hQ (Or.inr ⟨hg, rfl⟩) hS h
theorem rn (i : Nat) {oi : Oper} (hr : Region.ready .any l.toArray listed = [i]) (hi : nth l i = some oi) (hg : Region.wanted oi (yielded l.toArray a.tmps) = true)
  (h : ∀ K' : Act -> World -> Prop, Shut (∀ a w, S w -> (S w -> wpAnyH P .any l.toArray Q S fuel (listed.setIfInBounds i true) a w) -> K' a w) -> Oper.wp P oi a w K' Q) :
  wpAnyH P .any l.toArray Q S (fuel + 1) listed a w :=
 wpAnyH_ready (rs := [i]) hr (by simp) (AllReadyH.cons (nth_eq _ _ _ hi) (fun K hK => by rw [if_pos hg]; exact h K hK) AllReadyH.nil)
theorem rn2 (i j : Nat) {oi oj : Oper} (hr : Region.ready .any l.toArray listed = [i, j]) (hi : nth l i = some oi) (hg : Region.wanted oi (yielded l.toArray a.tmps) = true)
  (h : ∀ K' : Act -> World -> Prop, Shut (∀ a w, S w -> (S w -> wpAnyH P .any l.toArray Q S fuel (listed.setIfInBounds i true) a w) -> K' a w) -> Oper.wp P oi a w K' Q)
  (hj : nth l j = some oj) (hg2 : Region.wanted oj (yielded l.toArray a.tmps) = true)
  (h2 : ∀ K' : Act -> World -> Prop, Shut (∀ a w, S w -> (S w -> wpAnyH P .any l.toArray Q S fuel (listed.setIfInBounds j true) a w) -> K' a w) -> Oper.wp P oj a w K' Q) :
  wpAnyH P .any l.toArray Q S (fuel + 1) listed a w :=
 wpAnyH_ready (rs := [i, j]) hr (by simp) (AllReadyH.cons (nth_eq _ _ _ hi) (fun K hK => by rw [if_pos hg]; exact h K hK) (AllReadyH.cons (nth_eq _ _ _ hj) (fun K hK => by rw [if_pos hg2]; exact h2 K hK) AllReadyH.nil))
end
end Go.Proofs.YtpckaimpjccjhaaGreatDoor
