/- Plain laws of puny: what stands of a row, where the text goes on. -/
import Derived.Test.YtledmlgebfbhaaaDoorPunP
namespace Go.Proofs.YtledmlgebfbhaaaDoor
open Go.RowKit
set_option maxRecDepth 10000

/-- those of l below n, and those that are n ahead of the k-th place -/
def Hk (l : List Int) (n : Int) (k : Nat) : List Int := (l.take k).filter (fun c => decide (c ≤ n)) ++ (l.drop k).filter (fun c => decide (c < n))
/-- how many of the first k are done -/
def pk (l : List Int) (n : Int) (k : Nat) : Nat := ((l.take k).filter (fun c => decide (c ≤ n))).length
theorem pk_step {l : List Int} {k : Nat} (h : k < l.length) (n : Int) : pk l n (k + 1) = pk l n k + if l[k] ≤ n then 1 else 0 := by
  unfold pk
  rw [List.take_succ_eq_append_getElem h, List.filter_append, List.length_append]
  by_cases h2 : l[k] ≤ n
  · rw [if_pos h2, List.filter_cons_of_pos (by simpa using h2)]; rfl
  · rw [if_neg h2, List.filter_cons_of_neg (by simpa using h2)]; rfl
theorem Hk_same {l : List Int} {k : Nat} (h : k < l.length) {n : Int} (hn : l[k] ≠ n) : Hk l n (k + 1) = Hk l n k := by
  unfold Hk
  rw [List.take_succ_eq_append_getElem h, List.drop_eq_getElem_cons h, List.filter_append, List.append_assoc]
  congr 1
  by_cases h2 : l[k] < n
  · rw [List.filter_cons_of_pos (by simp; omega), List.filter_cons_of_pos (by simpa using h2)]; rfl
  · rw [List.filter_cons_of_neg (by simp; omega), List.filter_cons_of_neg (by simpa using h2)]; rfl
theorem Hk_ins {l : List Int} {k : Nat} (h : k < l.length) {n : Int} (hn : l[k] = n) : Hk l n (k + 1) = (Hk l n k).take (pk l n k) ++ n :: (Hk l n k).drop (pk l n k) := by
  have e : Hk l n k = (l.take k).filter (fun c => decide (c ≤ n)) ++ (l.drop (k + 1)).filter (fun c => decide (c < n)) := by
    unfold Hk
    rw [List.drop_eq_getElem_cons h, List.filter_cons_of_neg (by simp; omega)]
  rw [e]
  unfold pk
  rw [List.take_left', List.drop_left']
  · unfold Hk
    rw [List.take_succ_eq_append_getElem h, List.filter_append, List.filter_cons_of_pos (by simp; omega), hn, List.append_assoc]
    rfl
  · rfl
  · rfl
theorem Hk_end (l : List Int) (n : Int) : Hk l n l.length = Hk l (n + 1) 0 := by
  unfold Hk
  rw [List.take_length, List.drop_length, List.take_zero, List.drop_zero]
  simp only [List.filter_nil, List.append_nil, List.nil_append]
  refine List.filter_congr fun c _ => ?_
  simp only [decide_eq_decide]
  omega
theorem Hk_next {l : List Int} {n m : Int} (hm : n ≤ m) (h : ∀ c ∈ l, n ≤ c → m ≤ c) : Hk l m 0 = Hk l n 0 := by
  unfold Hk
  rw [List.take_zero, List.drop_zero]
  congr 1
  refine List.filter_congr fun c hc => ?_
  have := h c hc
  simp only [decide_eq_decide]
  omega
theorem pk_le (l : List Int) (n : Int) (k : Nat) : pk l n k ≤ (Hk l n k).length := by unfold pk Hk; rw [List.length_append]; omega
theorem pk_end (l : List Int) (n : Int) : pk l n l.length = (Hk l n l.length).length := by
  unfold pk Hk
  rw [List.take_length, List.drop_length]
  simp
theorem Hk_all {l : List Int} {n : Int} (h : (Hk l n 0).length = l.length) : Hk l n 0 = l := by
  unfold Hk at *
  rw [List.take_zero, List.drop_zero] at *
  simp only [List.filter_nil, List.nil_append] at *
  exact List.filter_eq_self.mpr (List.length_filter_eq_length_iff.mp h)
end Go.Proofs.YtledmlgebfbhaaaDoor
