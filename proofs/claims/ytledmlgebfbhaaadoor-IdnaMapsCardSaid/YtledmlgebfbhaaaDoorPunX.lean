/- Plain laws of puny: what was written is read. -/
import Derived.Test.YtledmlgebfbhaaaDoorPunW
namespace Go.Proofs.YtledmlgebfbhaaaDoor
open Go.RowKit
set_option maxRecDepth 10000

theorem bas_map {l : List Int} (hall : ∀ c ∈ l, sg c = true) : (bas l).map b2 = Hk l 128 0 := by
  unfold bas Hk
  rw [List.take_zero, List.drop_zero, List.map_map]
  simp only [List.filter_nil, List.nil_append]
  conv => rhs; rw [← List.map_id (l.filter fun c => decide (c < 128))]
  refine List.map_congr_left fun c hc => ?_
  have h1 := List.mem_filter.mp hc
  have h2 := (sg_iff.mp (hall c h1.1)).1
  have h3 := of_decide_eq_true h1.2
  exact b2_of (by omega)
/-- what is written: the signs below 128, a hyphen behind them, and digits -/
theorem encF_parts {l : List Int} (hall : ∀ c ∈ l, sg c = true) (hll : l.length ≤ 255) : ∃ W : Bytes, encF l = bas l ++ hyp (bas l) ++ W ∧ (∀ y ∈ W, isDg y) ∧ (W.length : Int) ≤ 8 * (l.length - (bas l).length) ∧ (W.length = 0 → (bas l).length = l.length) := by
  have hbl := bas_len l
  have hbe := bas_le l
  obtain ⟨W, e1, e2, e3, e4⟩ := dec_enc l hall hll l.length 128 ⟨bas l ++ hyp (bas l), 0, (bas l).length, 72, true⟩ 0 128 (by omega) (by omega) (by omega) (by simp) (by simp only; rw [Hk_cnt, hbl]) (by simp) (by simp only; omega)
  refine ⟨W, e1, e3, e4, fun h0 => ?_⟩
  obtain rfl : W = [] := List.eq_nil_of_length_eq_zero h0
  have h2 : some (Hk l 128 0) = some l := e2
  rw [← congrArg List.length (Option.some.inj h2), Hk_cnt, hbl]
theorem encF_len {l : List Int} (hall : ∀ c ∈ l, sg c = true) (hll : l.length ≤ 255) : (encF l).length ≤ 3000 := by
  obtain ⟨W, e, _, h, _⟩ := encF_parts hall hll
  have hbe := bas_le l
  have hh : (hyp (bas l)).length ≤ 1 := by unfold hyp; split <;> simp
  rw [e, List.length_append, List.length_append]
  omega
theorem dec_of_enc {l : List Int} (hall : ∀ c ∈ l, sg c = true) (hll : l.length ≤ 255) : decF (encF l) = some l := by
  have hm := bas_map hall
  have hbl := bas_len l
  have hbe := bas_le l
  obtain ⟨W, e1, e2, e3, _⟩ := dec_enc l hall hll l.length 128 ⟨bas l ++ hyp (bas l), 0, (bas l).length, 72, true⟩ 0 128 (by omega) (by omega) (by omega) (by simp) (by simp only; rw [Hk_cnt, hbl]) (by simp) (by simp only; omega)
  have he : encF l = bas l ++ hyp (bas l) ++ W := e1
  rw [he]
  simp only at e2
  rw [← hm] at e2
  by_cases h0 : (bas l).length = 0
  · have hb : bas l = [] := List.eq_nil_of_length_eq_zero h0
    rw [hb] at e2 ⊢
    have hs : ([] : Bytes) ++ hyp [] ++ W = W := rfl
    rw [hs]
    unfold decF
    rw [hyAt_none e3, if_neg (by omega)]
    exact e2
  · have hs : bas l ++ hyp (bas l) ++ W = bas l ++ 45 :: W := by unfold hyp; rw [if_neg h0, List.append_assoc]; rfl
    rw [hs]
    unfold decF
    rw [hyAt_some e3, if_pos (by omega), if_neg (by omega), Int.toNat_natCast, List.take_left, if_pos, decA_of]
    · rw [show (bas l ++ 45 :: W).drop ((bas l).length + 1) = W by rw [← List.drop_drop, List.drop_left]; rfl]
      exact e2
    · rw [List.length_drop]; omega
    · refine List.all_eq_true.mpr fun y hy => decide_eq_true ?_
      have h1 : b2 y ∈ (bas l).map b2 := List.mem_map_of_mem hy
      rw [hm] at h1
      unfold Hk at h1
      rw [List.take_zero, List.drop_zero] at h1
      simp at h1
      exact h1.2
end Go.Proofs.YtledmlgebfbhaaaDoor
