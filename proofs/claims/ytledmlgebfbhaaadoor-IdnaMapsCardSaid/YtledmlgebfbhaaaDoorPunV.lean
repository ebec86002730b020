/- Plain laws of puny: what is written behind the signs below 128 is digits alone. -/
import Derived.Test.YtledmlgebfbhaaaDoorPunP
namespace Go.Proofs.YtledmlgebfbhaaaDoor
open Go.RowKit
set_option maxRecDepth 10000

def isDg (y : UInt8) : Prop := (97 ≤ b2 y ∧ b2 y ≤ 122) ∨ (48 ≤ b2 y ∧ b2 y ≤ 57)
theorem db_dg {d : Int} (h : 0 ≤ d ∧ d < 36) : isDg (db d) := by
  unfold isDg
  rw [b2_db h]
  unfold dig
  split <;> omega
theorem dgGo_dg : ∀ (f j : Nat) (d bias : Int), 0 ≤ d → d < 2 ^ f → ∀ y ∈ dgGo f j d bias, isDg y
  | f, j, d, bias, h0, hf => by
    have hb := bnd_range j bias
    by_cases hlt : d < bnd j bias
    · rw [dgGo_last f j hlt]
      intro y hy
      simp at hy
      subst hy
      exact db_dg (by omega)
    · obtain ⟨g, rfl, hmo, hq⟩ := dgGo_more hlt hf h0
      rw [hmo]
      have hr : 0 ≤ (d - bnd j bias) % (36 - bnd j bias) ∧ (d - bnd j bias) % (36 - bnd j bias) < 36 - bnd j bias := ⟨Int.emod_nonneg _ (by omega), Int.emod_lt_of_pos _ (by omega)⟩
      intro y hy
      rcases List.mem_cons.mp hy with rfl | hy
      · exact db_dg (by omega)
      · exact dgGo_dg g (j + 1) _ bias (Int.ediv_nonneg (by omega) (by omega)) hq y hy
theorem digs_dg {d : Int} (bias : Int) (h0 : 0 ≤ d) (h1 : d < 1099511627776) : ∀ y ∈ digs d bias, isDg y := dgGo_dg 40 0 d bias h0 (by omega)
/-- below it a number has at most k + 1 digits -/
def thr : Nat → Int
  | 0 => 26
  | k + 1 => 26 + 10 * thr k
theorem thr_ge : ∀ k, 26 ≤ thr k
  | 0 => by unfold thr; omega
  | k + 1 => by have := thr_ge k; unfold thr; omega
theorem thr_step {t d T : Int} (ht : 1 ≤ t ∧ t ≤ 26) (hT : 26 ≤ T) (hd : d < 26 + 10 * T) : (d - t) / (36 - t) < T := by
  refine Int.ediv_lt_of_lt_mul (by omega) ?_
  have h1 : T * (36 - t) = 36 * T - t * T := by rw [Int.mul_sub, Int.mul_comm T 36, Int.mul_comm T t]
  have h2 : 0 ≤ (26 - t) * (T - 1) := Int.mul_nonneg (by omega) (by omega)
  have h3 : (26 - t) * (T - 1) = 26 * T - 26 - (t * T - t) := by rw [Int.sub_mul, Int.mul_sub, Int.mul_sub]; omega
  omega
theorem dgGo_26 : ∀ (k f j : Nat) (d bias : Int), 0 ≤ d → d < 2 ^ f → d < thr k → 26 ≤ 36 * ((j : Int) + 1) - bias → (dgGo f j d bias).length ≤ k + 1
  | k, f, j, d, bias, h0, hf, hk, hj => by
    have hb := bnd_range j bias
    have hbe : bnd j bias = 26 := by unfold bnd; omega
    by_cases hlt : d < bnd j bias
    · rw [dgGo_last f j hlt]; simp
    · obtain ⟨g, rfl, hmo, hq⟩ := dgGo_more hlt hf h0
      rw [hmo, List.length_cons]
      cases k with
      | zero => unfold thr at hk; omega
      | succ k =>
        have hk2 : d < 26 + 10 * thr k := hk
        have := dgGo_26 k g (j + 1) _ bias (Int.ediv_nonneg (by omega) (by omega)) hq (thr_step hb (thr_ge k) hk2) (by omega)
        omega
def thA : Nat → Int
  | 0 => 1
  | k + 1 => min (1 + 35 * thA k) (thr (k + 1))
theorem dgGo_thA : ∀ (k f j : Nat) (d bias : Int), 0 ≤ d → d < 2 ^ f → d < thA k → (dgGo f j d bias).length ≤ k + 1
  | k, f, j, d, bias, h0, hf, hk => by
    have hb := bnd_range j bias
    by_cases hlt : d < bnd j bias
    · rw [dgGo_last f j hlt]; simp
    · obtain ⟨g, rfl, hmo, hq⟩ := dgGo_more hlt hf h0
      rw [hmo, List.length_cons]
      cases k with
      | zero => unfold thA at hk; omega
      | succ k =>
        have hk1 : d < min (1 + 35 * thA k) (thr (k + 1)) := hk
        have hk2 : d < 26 + 10 * thr k := by have : thr (k + 1) = 26 + 10 * thr k := rfl
                                             omega
        have hn : 0 ≤ (d - bnd j bias) / (36 - bnd j bias) := Int.ediv_nonneg (by omega) (by omega)
        by_cases hc : 36 * ((j : Int) + 1) - bias ≤ 1
        · have hbe : bnd j bias = 1 := by unfold bnd; omega
          have := dgGo_thA k g (j + 1) ((d - bnd j bias) / (36 - bnd j bias)) bias hn hq (by rw [hbe]; omega)
          omega
        · have := dgGo_26 k g (j + 1) _ bias hn hq (thr_step hb (thr_ge k) hk2) (by omega)
          omega
theorem digs_len8 {d : Int} (bias : Int) (h0 : 0 ≤ d) (h1 : d < 288888886) : (digs d bias).length ≤ 8 := by
  have h : thA 7 = 288888886 := by decide +kernel
  exact dgGo_thA 7 40 0 d bias h0 (by omega) (by omega)
theorem hyphen_dg : ¬ isDg 45 := by unfold isDg b2; simp
end Go.Proofs.YtledmlgebfbhaaaDoor
