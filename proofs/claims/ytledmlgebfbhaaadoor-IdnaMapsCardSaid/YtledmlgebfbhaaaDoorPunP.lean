/- Plain laws of puny: a number that was written is read. -/
import Derived.Test.YtledmlgebfbhaaaDoorPunG
namespace Go.Proofs.YtledmlgebfbhaaaDoor
open Go.RowKit
set_option maxRecDepth 10000

theorem wrt_dig {d : Int} (h : 0 ≤ d ∧ d < 36) : wrt (dig d) = d := by
  unfold wrt dig
  by_cases h1 : d < 26
  · rw [if_pos h1, if_pos (by omega)]; omega
  · rw [if_neg h1, if_neg (by omega), if_neg (by omega), if_pos (by omega)]; omega
theorem wrt_db {d : Int} (h : 0 ≤ d ∧ d < 36) : wrt (b2 (db d)) = d := by rw [b2_db h, wrt_dig h]

theorem rdGo_digs : ∀ (f j : Nat) (d sum wt bias : Int) (rest : Bytes), 0 ≤ d → d < 2 ^ f → 1 ≤ wt → sum + d * wt ≤ 2147483647 →
    rdGo (dgGo f j d bias ++ rest) j sum wt bias = (sum + d * wt, (j : Int) + (dgGo f j d bias).length)
  | f, j, d, sum, wt, bias, rest, h0, hf, hw, hs => by
    have hb := bnd_range j bias
    by_cases hlt : d < bnd j bias
    · have hd : 0 ≤ d ∧ d < 36 := by omega
      rw [dgGo_last f j hlt]
      show rdGo (db d :: rest) j sum wt bias = _
      unfold rdGo
      simp only [wrt_db hd]
      rw [if_neg (by omega), if_neg (by omega), if_pos hlt]
      rfl
    · obtain ⟨g, rfl, hmo, hq⟩ := dgGo_more hlt hf h0
      rw [hmo]
      generalize hB : bnd j bias = b at *
      have hr : 0 ≤ (d - b) % (36 - b) ∧ (d - b) % (36 - b) < 36 - b := ⟨Int.emod_nonneg _ (by omega), Int.emod_lt_of_pos _ (by omega)⟩
      have hq0 : 0 ≤ (d - b) / (36 - b) := Int.ediv_nonneg (by omega) (by omega)
      have hc : 0 ≤ b + (d - b) % (36 - b) ∧ b + (d - b) % (36 - b) < 36 := by omega
      have hdm : (36 - b) * ((d - b) / (36 - b)) + (d - b) % (36 - b) = d - b := Int.mul_ediv_add_emod _ _
      have hdw : d * wt = (b + (d - b) % (36 - b)) * wt + (d - b) / (36 - b) * (wt * (36 - b)) := by
        have : d = (b + (d - b) % (36 - b)) + (36 - b) * ((d - b) / (36 - b)) := by omega
        conv => lhs; rw [this]
        rw [Int.add_mul, Int.mul_comm (36 - b) ((d - b) / (36 - b)), Int.mul_assoc, Int.mul_comm (36 - b) wt]
      have hpos : 0 ≤ (d - b) / (36 - b) * (wt * (36 - b)) := Int.mul_nonneg hq0 (Int.mul_nonneg (by omega) (by omega))
      have hwt : 1 ≤ wt * (36 - b) := by
        have := mul_ge (c := 36 - b) (wt := wt) (by omega) hw
        rw [Int.mul_comm] at this
        omega
      show rdGo (db (b + (d - b) % (36 - b)) :: (dgGo g (j + 1) ((d - b) / (36 - b)) bias ++ rest)) j sum wt bias = _
      unfold rdGo
      simp only [wrt_db hc, hB]
      rw [if_neg (by omega), if_neg (by omega), if_neg (by omega), rdGo_digs g (j + 1) _ _ _ bias rest hq0 hq hwt (by omega)]
      simp only [List.length_cons]
      refine Prod.ext ?_ ?_
      · show _ + _ = _; omega
      · show ((j + 1 : Nat) : Int) + _ = _; omega
/-- a number that was written is read, whatever stands behind it -/
theorem rd_digs {d bias : Int} (rest : Bytes) (h0 : 0 ≤ d) (h1 : d ≤ 2147483647) : rd (digs d bias ++ rest) bias = (d, ((digs d bias).length : Int)) := by
  have := rdGo_digs 40 0 d 0 1 bias rest h0 (by omega) (by omega) (by omega)
  unfold rd digs
  rw [this]
  refine Prod.ext ?_ ?_
  · show 0 + d * 1 = d; omega
  · show ((0 : Nat) : Int) + _ = _; omega
end Go.Proofs.YtledmlgebfbhaaaDoor
