/- Plain laws of layer 8: the pieces between the dots. -/
import Derived.Test.YtledmlgebfbhaaaDoorIdnL
namespace Go.Proofs.YtledmlgebfbhaaaDoor
open Go.RowKit
set_option maxRecDepth 10000

/-- a text, cut at its dots -/
def cutD : Bytes → List Bytes
  | [] => [[]]
  | x :: r => if x = 46 then [] :: cutD r else match cutD r with | [] => [[x]] | p :: ps => (x :: p) :: ps
theorem cutD_nil : cutD [] = [[]] := rfl
theorem cutD_dot (r : Bytes) : cutD (46 :: r) = [] :: cutD r := by rw [cutD, if_pos rfl]
theorem cutD_ne : ∀ t, ∃ p ps, cutD t = p :: ps
  | [] => ⟨_, _, rfl⟩
  | x :: r => by
    unfold cutD
    split
    · exact ⟨_, _, rfl⟩
    · obtain ⟨p, ps, h⟩ := cutD_ne r
      rw [h]; exact ⟨_, _, rfl⟩
theorem cutD_other {x : UInt8} {r p : Bytes} {ps : List Bytes} (h : x ≠ 46) (hr : cutD r = p :: ps) : cutD (x :: r) = (x :: p) :: ps := by
  rw [cutD, if_neg h, hr]
theorem ix_cons (x : UInt8) (r : Bytes) : Lib.index (x :: r) [46] = if x = 46 then 0 else if Lib.index r [46] = -1 then -1 else Lib.index r [46] + 1 := by
  rw [Lib.index_one, Lib.index_one, Lib.indexByte]
  by_cases h : x = 46
  · subst h; simp
  · rw [if_neg h, if_neg (by simpa using h)]
    simp only [beq_iff_eq]
theorem count_cons' (x : UInt8) (r : Bytes) : Lib.count (x :: r) [46] = if x = 46 then Lib.count r [46] + 1 else Lib.count r [46] := by
  rw [Lib.count_one, Lib.count_one, List.count_cons]
  by_cases h : x = 46
  · subst h; simp
  · simp [h]
theorem ix_none : ∀ r : Bytes, Lib.count r [46] = 0 → Lib.index r [46] = -1 ∧ cutD r = [r]
  | [], _ => ⟨by rw [Lib.index_one]; rfl, rfl⟩
  | x :: r, h => by
    rw [count_cons'] at h
    split at h
    · omega
    · next hx =>
      obtain ⟨h1, h2⟩ := ix_none r h
      exact ⟨by rw [ix_cons, if_neg hx, if_pos h1], cutD_other hx h2⟩
theorem ix_some : ∀ r : Bytes, Lib.count r [46] ≠ 0 → ∃ i : Nat, Lib.index r [46] = i
  | [], h => by rw [Lib.count_one] at h; simp at h
  | x :: r, h => by
    rw [count_cons'] at h
    rw [ix_cons]
    by_cases hx : x = 46
    · exact ⟨0, by rw [if_pos hx]; try rfl⟩
    · rw [if_neg hx] at h
      obtain ⟨i, hi⟩ := ix_some r h
      exact ⟨i + 1, by rw [if_neg hx, if_neg (by omega), hi]; rfl⟩
theorem splitK_hit {s : Bytes} {k i : Nat} (h : Lib.index s [46] = i) : Lib.splitK [46] 0 (k + 1) s = s.take i :: Lib.splitK [46] 0 k (s.drop (i + 1)) := by
  rw [Lib.splitK, if_neg (by rw [h]; simp), h]
  rfl
theorem splitK_cut : ∀ t : Bytes, Lib.splitK [46] 0 (Lib.count t [46]) t = cutD t
  | [] => by
    rw [Lib.count_one]
    rfl
  | x :: r => by
    have ih := splitK_cut r
    rw [count_cons']
    by_cases hx : x = 46
    · subst hx
      rw [if_pos rfl, splitK_hit (i := 0) (by rw [ix_cons, if_pos rfl]; rfl), cutD_dot]
      rw [show (46 :: r).drop (0 + 1) = r from rfl, ih]
      rfl
    · rw [if_neg hx]
      by_cases h0 : Lib.count r [46] = 0
      · rw [h0]
        exact (cutD_other hx (ix_none r h0).2).symm
      · obtain ⟨i, hi⟩ := ix_some r h0
        obtain ⟨k, hk⟩ : ∃ k, Lib.count r [46] = k + 1 := ⟨Lib.count r [46] - 1, by omega⟩
        rw [hk, splitK_hit hi] at ih
        rw [hk, splitK_hit (i := i + 1) (by rw [ix_cons, if_neg hx, if_neg (by omega), hi]; rfl)]
        rw [cutD_other hx ih.symm]
        rfl
theorem pieces_cut (t : Bytes) : pieces t = cutD t := by
  unfold pieces
  have h := Lib.splitB_data dotB 0 (Lib.countB (bs t) dotB) (bs t)
  have e1 : (bs t).data.toList = t := ls_bs t
  have e2 : dotB.data.toList = [46] := rfl
  have e3 : Lib.countB (bs t) dotB = Lib.count t [46] := by
    show Lib.count (bs t).data.toList dotB.data.toList = _
    rw [e1, e2]
  rw [e1, e2, e3, splitK_cut] at h
  rw [e3]
  exact h
theorem cutD_app : ∀ a b : Bytes, cutD (a ++ 46 :: b) = cutD a ++ cutD b
  | [], b => by rw [List.nil_append, cutD_dot, cutD_nil]; rfl
  | x :: r, b => by
    have ih := cutD_app r b
    obtain ⟨p, ps, h⟩ := cutD_ne r
    by_cases hx : x = 46
    · subst hx
      rw [List.cons_append, cutD_dot, cutD_dot, ih]; rfl
    · rw [h] at ih
      rw [List.cons_append, cutD_other hx ih, cutD_other hx h]; rfl
theorem joinD_cons (p : Bytes) (q : Bytes) (ps : List Bytes) : joinD (p :: q :: ps) = p ++ 46 :: joinD (q :: ps) := by
  unfold joinD
  rw [Lib.join_cons, Lib.join_cons]
  unfold Lib.joinTail
  simp
theorem join_cut : ∀ t : Bytes, joinD (cutD t) = t
  | [] => by rw [cutD_nil]; unfold joinD; rw [Lib.join_one]
  | x :: r => by
    have ih := join_cut r
    obtain ⟨p, ps, h⟩ := cutD_ne r
    by_cases hx : x = 46
    · subst hx
      rw [cutD_dot]
      rw [h] at ih ⊢
      rw [joinD_cons, ih]; rfl
    · rw [cutD_other hx h]
      rw [h] at ih
      cases ps with
      | nil =>
        unfold joinD at *
        rw [Lib.join_one] at *
        rw [ih]
      | cons q qs =>
        rw [joinD_cons] at *
        rw [← ih]; rfl
theorem cut_join : ∀ (p : Bytes) (ps : List Bytes), (∀ q ∈ p :: ps, 46 ∉ q) → cutD (joinD (p :: ps)) = p :: ps
  | p, [], h => by
    unfold joinD
    rw [Lib.join_one]
    have hp := h p (by simp)
    clear h
    induction p with
    | nil => rfl
    | cons x r ih =>
      have hx : x ≠ 46 := fun h => hp (by simp [h])
      exact cutD_other hx (ih (fun h => hp (by simp [h])))
  | p, q :: qs, h => by
    have ih := cut_join q qs (fun z hz => h z (by simp only [List.mem_cons] at hz ⊢; exact .inr hz))
    have hp : cutD p = [p] := by
      have hp := h p (by simp)
      clear h ih
      induction p with
      | nil => rfl
      | cons x r ih =>
        have hx : x ≠ 46 := fun h => hp (by simp [h])
        exact cutD_other hx (ih (fun h => hp (by simp [h])))
    rw [joinD_cons, cutD_app, hp, ih]
    rfl
/-- pieces hold no dot -/
theorem cut_nodot : ∀ (t : Bytes), ∀ p ∈ cutD t, 46 ∉ p
  | [], p, h => by rw [cutD_nil] at h; simp at h; subst h; simp
  | x :: r, p, h => by
    have ih := cut_nodot r
    obtain ⟨q, qs, hq⟩ := cutD_ne r
    by_cases hx : x = 46
    · subst hx
      rw [cutD_dot] at h
      rcases List.mem_cons.mp h with rfl | h
      · simp
      · exact ih p h
    · rw [cutD_other hx hq] at h
      rcases List.mem_cons.mp h with rfl | h
      · have := ih q (by rw [hq]; simp)
        intro h2
        rcases List.mem_cons.mp h2 with h2 | h2
        · exact hx h2.symm
        · exact this h2
      · exact ih p (by rw [hq]; simp [h])
/-- signs, cut at their dots -/
def cutS : List Int → List (List Int)
  | [] => [[]]
  | c :: r => if c = 46 then [] :: cutS r else match cutS r with | [] => [[c]] | p :: ps => (c :: p) :: ps
theorem cutS_ne : ∀ t, ∃ p ps, cutS t = p :: ps
  | [] => ⟨_, _, rfl⟩
  | x :: r => by
    unfold cutS
    split
    · exact ⟨_, _, rfl⟩
    · obtain ⟨p, ps, h⟩ := cutS_ne r
      rw [h]; exact ⟨_, _, rfl⟩
theorem cutS_other {x : Int} {r p : List Int} {ps : List (List Int)} (h : x ≠ 46) (hr : cutS r = p :: ps) : cutS (x :: r) = (x :: p) :: ps := by
  rw [cutS, if_neg h, hr]
theorem cutD_pre : ∀ (e t p : Bytes) (ps : List Bytes), 46 ∉ e → cutD t = p :: ps → cutD (e ++ t) = (e ++ p) :: ps
  | [], t, p, ps, _, h => h
  | x :: e, t, p, ps, he, h => by
    have ih := cutD_pre e t p ps (fun h2 => he (by simp [h2])) h
    exact cutD_other (fun h2 => he (by simp [h2])) ih
theorem enc_nodot {c : Int} (hv : Utf8.valid c = true) (h : c ≠ 46) : (46 : UInt8) ∉ enc c := by
  have hr := (valid_iff c).mp hv
  intro hm
  have key : ∀ n : Int, 0 ≤ n → n < 256 → n ≠ 46 → (46 : UInt8) ≠ UInt8.ofNat n.toNat := by
    intro n h0 h1 h2 e
    have := congrArg b2 e
    rw [b2_of (by omega)] at this
    have e46 : b2 46 = 46 := by decide
    omega
  by_cases h1 : c < 0x80
  · rw [enc_1 (by omega) h1] at hm
    simp only [List.mem_singleton] at hm
    exact key c (by omega) (by omega) h hm
  · by_cases h2 : c < 0x800
    · rw [enc_2 (by omega) h2] at hm
      simp only [List.mem_cons, List.not_mem_nil, or_false] at hm
      rcases hm with hm | hm
      all_goals exact key _ (by omega) (by omega) (by omega) hm
    · by_cases h3 : c < 0x10000
      · rw [enc_3 (by omega) h3 (by omega)] at hm
        simp only [List.mem_cons, List.not_mem_nil, or_false] at hm
        rcases hm with hm | hm | hm
        all_goals exact key _ (by omega) (by omega) (by omega) hm
      · rw [enc_4 (by omega) (by omega)] at hm
        simp only [List.mem_cons, List.not_mem_nil, or_false] at hm
        rcases hm with hm | hm | hm | hm
        all_goals exact key _ (by omega) (by omega) (by omega) hm
theorem cut_signs : ∀ l : List Int, (∀ c ∈ l, Utf8.valid c = true) → cutD (joinF l) = (cutS l).map joinF
  | [], _ => rfl
  | c :: r, h => by
    have ih := cut_signs r (fun x hx => h x (by simp [hx]))
    obtain ⟨p, ps, hp⟩ := cutS_ne r
    rw [joinF_cons]
    by_cases hc : c = 46
    · subst hc
      have e : enc 46 = [46] := by decide +kernel
      rw [e, List.singleton_append, cutD_dot, ih, cutS, if_pos rfl]
      rfl
    · rw [hp] at ih
      rw [cutD_pre _ _ _ _ (enc_nodot (h c (by simp)) hc) ih, cutS_other hc hp]
      rfl
theorem cutS_mem : ∀ (l : List Int), ∀ p ∈ cutS l, ∀ c ∈ p, c ∈ l ∧ c ≠ 46
  | [], p, h, c, hc => by
    have : p = [] := by simpa [cutS] using h
    subst this; simp at hc
  | x :: r, p, h, c, hc => by
    have ih := cutS_mem r
    obtain ⟨q, qs, hq⟩ := cutS_ne r
    by_cases hx : x = 46
    · subst hx
      rw [cutS, if_pos rfl] at h
      rcases List.mem_cons.mp h with rfl | h
      · simp at hc
      · have := ih p h c hc
        exact ⟨by simp [this.1], this.2⟩
    · rw [cutS_other hx hq] at h
      rcases List.mem_cons.mp h with rfl | h
      · rcases List.mem_cons.mp hc with rfl | hc
        · exact ⟨by simp, hx⟩
        · have := ih q (by rw [hq]; simp) c hc
          exact ⟨by simp [this.1], this.2⟩
      · have := ih p (by rw [hq]; simp [h]) c hc
        exact ⟨by simp [this.1], this.2⟩
end Go.Proofs.YtledmlgebfbhaaaDoor
