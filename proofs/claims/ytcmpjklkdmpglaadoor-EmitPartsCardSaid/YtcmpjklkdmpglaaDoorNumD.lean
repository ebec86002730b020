/- Addresses of eight pieces as texts: what is written, as plain lists. No program stands in it. -/
import Derived.Test.YtcmpjklkdmpglaaDoorNumB
namespace Go.Proofs.YtcmpjklkdmpglaaDoor
open Go.RowKit
set_option maxRecDepth 10000

/-- the place behind the noughts from j on -/
def runE (z : List Bool) (j : Nat) : Nat := j + ((z.drop j).takeWhile id).length
theorem runE_step {z : List Bool} {j : Nat} (hj : j < z.length) (h : z[j] = true) : runE z j = runE z (j + 1) := by
  unfold runE
  rw [List.drop_eq_getElem_cons hj, List.takeWhile_cons, h]
  simp
  omega
theorem runE_stop {z : List Bool} {j : Nat} (hj : j < z.length) (h : z[j] = false) : runE z j = j := by
  unfold runE
  rw [List.drop_eq_getElem_cons hj, List.takeWhile_cons, h]
  simp
theorem runE_end {z : List Bool} {j : Nat} (hj : z.length ≤ j) : runE z j = j := by
  unfold runE
  rw [List.drop_eq_nil_of_le hj]
  simp
theorem runE_ge (z : List Bool) (j : Nat) : j ≤ runE z j := by unfold runE; omega
theorem runE_le {z : List Bool} {j : Nat} (hj : j ≤ z.length) : runE z j ≤ z.length := by
  unfold runE
  have := (List.takeWhile_prefix (l := z.drop j) id).length_le
  rw [List.length_drop] at this
  omega
/-- the longest run, as the program looks for it -/
def lrGo (z : List Bool) : Nat → Nat → Nat → Nat → Nat × Nat
  | 0, _, b, e => (b, e)
  | f + 1, i, b, e => if i < 8 then (if 2 ≤ runE z i - i ∧ e - b < runE z i - i then lrGo z f (runE z i + 1) i (runE z i) else lrGo z f (runE z i + 1) b e) else (b, e)
def lrP (z : List Bool) : Nat × Nat := lrGo z 9 0 0 0
/-- and as the reference does -/
def lrHo (z : List Bool) : Nat → Nat → Nat → Nat → Nat × Nat
  | 0, _, b, m => (b, m)
  | f + 1, i, b, m => if i < 8 then (if m < runE z i - i then lrHo z f (i + 1) i (runE z i - i) else lrHo z f (i + 1) b m) else (b, m)
def lrR (z : List Bool) : Nat × Nat := lrHo z 9 0 8 1
/-- what is written: a number for a piece, 100 for a colon, 101 for two -/
def tokP (b e : Nat) : Nat → Nat → List Nat
  | 0, _ => []
  | f + 1, i => if i < 8 then (if i = b ∧ b < e then 101 :: tokP b e f e else (if 0 < i ∧ (i ≠ e ∨ e = b) then [100] else []) ++ i :: tokP b e f (i + 1)) else []
def tokR (b m : Nat) : Nat → Nat → Bool → List Nat
  | 0, _, _ => []
  | f + 1, i, c => if i < 8 then (if i = b then 101 :: tokR b m f (i + m) false else (if c then [100] else []) ++ i :: tokR b m f (i + 1) true) else []
def rendT (a : List Int) (t : Nat) : Bytes := if t = 100 then [58] else if t = 101 then [58, 58] else hexF (a.getD t 0).toNat
def rendA (a : List Int) (l : List Nat) : Bytes := l.flatMap (rendT a)
def zer (a : List Int) : List Bool := a.map fun n => decide (n = 0)
def sixF (a : List Int) : Bytes := rendA a (tokP (lrP (zer a)).1 (lrP (zer a)).2 9 0)
def sixR (a : List Int) : Bytes := rendA a (tokR (lrR (zer a)).1 (lrR (zer a)).2 9 0 false)
/-- all rows of eight -/
def all8 : List (List Bool) := (List.range 256).map fun k => (List.range 8).map fun i => decide (k / 2 ^ i % 2 = 1)
theorem bool_num (b : Bool) : ∃ k, k < 2 ∧ b = decide (k = 1) := by cases b; exact ⟨0, by omega, rfl⟩; exact ⟨1, by omega, rfl⟩
theorem mem_all8 (z : List Bool) (h : z.length = 8) : z ∈ all8 := by
  match z, h with
  | [a, b, c, d, e, f, g, i], _ =>
    cases a <;> cases b <;> cases c <;> cases d <;> cases e <;> cases f <;> cases g <;> cases i <;> decide +kernel
theorem toks_all : ∀ z ∈ all8, tokP (lrP z).1 (lrP z).2 9 0 = tokR (lrR z).1 (lrR z).2 9 0 false ∧ (lrP z).1 ≤ (lrP z).2 ∧ (lrP z).2 ≤ 8 ∧ 1 ≤ (lrR z).2 ∧ (lrR z).2 ≤ 8 ∧ (lrR z).1 ≤ 8 ∧ ((lrR z).1 < 8 → (lrR z).1 + (lrR z).2 ≤ 8) := by decide +kernel
theorem zer_len (a : List Int) : (zer a).length = a.length := by simp [zer]
theorem six_same (a : List Int) (h : a.length = 8) : sixR a = sixF a := by
  unfold sixR sixF
  rw [(toks_all (zer a) (mem_all8 _ (by rw [zer_len]; exact h))).1]
theorem hexF_len : ∀ (k u : Nat), u < 16 ^ (k + 1) → (hexF u).length ≤ k + 1
  | 0, u, h => by rw [hex_small (by simpa using h)]; simp
  | k + 1, u, h => by
    by_cases h16 : u < 16
    · rw [hex_small h16]; simp
    · rw [hex_big h16]
      have := hexF_len k (u / 16) (by rw [Nat.pow_succ] at h; omega)
      simp
      exact this
theorem hex_ne (u : Nat) : hexF u ≠ [] := by
  by_cases h : u < 16
  · rw [hex_small h]; simp
  · rw [hex_big h]; simp
theorem rendT_len (a : List Int) (ha : ∀ n ∈ a, 0 ≤ n ∧ n < 65536) (t : Nat) : (rendT a t).length ≤ 4 := by
  unfold rendT
  split
  · simp
  · split
    · simp
    · apply hexF_len 3
      by_cases ht : t < a.length
      · have := ha a[t] (List.getElem_mem _)
        simp [List.getD, ht]
        omega
      · simp [List.getD, List.getElem?_eq_none (Nat.le_of_not_lt ht)]
theorem rendA_len (a : List Int) (ha : ∀ n ∈ a, 0 ≤ n ∧ n < 65536) : ∀ l : List Nat, (rendA a l).length ≤ 4 * l.length
  | [] => by simp [rendA]
  | t :: l => by
    have h1 := rendT_len a ha t
    have h2 := rendA_len a ha l
    simp only [rendA, List.flatMap_cons, List.length_append, List.length_cons] at h2 ⊢
    omega
theorem tokP_len (b e : Nat) : ∀ f i, (tokP b e f i).length ≤ 2 * f
  | 0, _ => by simp [tokP]
  | f + 1, i => by
    unfold tokP
    have h1 := tokP_len b e f e
    have h2 := tokP_len b e f (i + 1)
    split
    · split
      · simp; omega
      · split <;> simp <;> omega
    · simp
theorem sixF_len (a : List Int) (ha : ∀ n ∈ a, 0 ≤ n ∧ n < 65536) : (sixF a).length ≤ 72 := by
  have h1 := rendA_len a ha (tokP (lrP (zer a)).1 (lrP (zer a)).2 9 0)
  have h2 := tokP_len (lrP (zer a)).1 (lrP (zer a)).2 9 0
  unfold sixF
  omega
end Go.Proofs.YtcmpjklkdmpglaaDoor
