/- Plain laws of texts: the library's way of telling signs, the program's and the reference's are one. No program stands in it. -/
import Derived.Test.YtledmlgebfbhaaaDoorTextF
import Derived.Test.YtledmlgebfbhaaaDoorTextI
namespace Go.Proofs.YtledmlgebfbhaaaDoor
open Go.RowKit Lib

/-- the ends of a second byte, by the first one -/
def loOf (a : Nat) : Nat := if a = 0xe0 then 0xa0 else if a = 0xf0 then 0x90 else 0x80
def hiOf (a : Nat) : Nat := if a = 0xed then 0x9f else if a = 0xf4 then 0x8f else 0xbf

theorem decN1 {n a b c d : Nat} (h : a < 0x80) : decodeN n a b c d = (a, 1) := by
  unfold decodeN; rw [if_pos h]
theorem decN0 {n a b c d : Nat} (h : 0x80 ≤ a ∧ a < 0xc2 ∨ 0xf4 < a ∧ a < 256) : decodeN n a b c d = (65533, 1) := by
  unfold decodeN
  rw [if_neg (by omega)]
  repeat' split
  all_goals first | rfl | (exfalso; omega)
theorem decN2 {n a b c d : Nat} (h : 0xc2 ≤ a ∧ a < 0xe0) : decodeN n a b c d = if 1 < n ∧ 0x80 ≤ b ∧ b ≤ 0xbf then (64 * (a % 32) + b - 128, 2) else (65533, 1) := by
  unfold decodeN
  rw [if_neg (by omega)]
  by_cases hc : 1 < n ∧ 0x80 ≤ b ∧ b ≤ 0xbf
  · rw [if_pos hc, if_pos (by omega), if_pos (by omega)]
    simp only [Prod.mk.injEq, and_true]; omega
  · rw [if_neg hc, if_neg (by omega), if_neg (by omega), if_neg (by omega)]
theorem decN3 {n a b c d : Nat} (h : 0xe0 ≤ a ∧ a < 0xf0) : decodeN n a b c d = if (1 < n ∧ loOf a ≤ b ∧ b ≤ hiOf a) ∧ 2 < n ∧ 0x80 ≤ c ∧ c ≤ 0xbf then (4096 * (a % 16) + 64 * b + c - 8320, 3) else (65533, 1) := by
  unfold decodeN
  rw [if_neg (by omega), if_neg (by omega)]
  have e1 : loOf a = if a = 0xe0 then 0xa0 else 0x80 := by unfold loOf; split; rfl; rw [if_neg (by omega)]
  have e2 : hiOf a = if a = 0xed then 0x9f else 0xbf := by unfold hiOf; split; rfl; rw [if_neg (by omega)]
  rw [e1, e2]
  by_cases hc : (1 < n ∧ (if a = 0xe0 then 0xa0 else 0x80) ≤ b ∧ b ≤ (if a = 0xed then 0x9f else 0xbf)) ∧ 2 < n ∧ 0x80 ≤ c ∧ c ≤ 0xbf
  · rw [if_pos hc]
    have h1 : a = 0xe0 → 0xa0 ≤ b := fun h => by rw [if_pos h] at hc; exact hc.1.2.1
    have h2 : a = 0xed → b ≤ 0x9f := fun h => by rw [if_pos h] at hc; exact hc.1.2.2
    have h3 : 0x80 ≤ b ∧ b ≤ 0xbf := by
      obtain ⟨⟨_, p, q⟩, _⟩ := hc
      constructor
      · split at p <;> omega
      · split at q <;> omega
    rw [if_pos (by omega), if_pos (by omega)]
    simp only [Prod.mk.injEq, and_true]; omega
  · rw [if_neg hc]
    have hbad : ¬ ((1 < n ∧ 0x80 ≤ b ∧ b ≤ 0xbf) ∧ 2 < n ∧ 0x80 ≤ c ∧ c ≤ 0xbf) ∨ (a = 0xe0 ∧ b < 0xa0) ∨ (a = 0xed ∧ 0x9f < b) := by
      by_cases k : (1 < n ∧ 0x80 ≤ b ∧ b ≤ 0xbf) ∧ 2 < n ∧ 0x80 ≤ c ∧ c ≤ 0xbf
      · right
        by_cases k1 : a = 0xe0
        · left; refine ⟨k1, ?_⟩
          rw [if_pos k1, if_neg (by omega)] at hc; omega
        · by_cases k2 : a = 0xed
          · right; refine ⟨k2, ?_⟩
            rw [if_neg k1, if_pos k2] at hc; omega
          · rw [if_neg k1, if_neg k2] at hc; omega
      · left; exact k
    repeat' split
    all_goals first | rfl | (exfalso; omega)
theorem decN4 {n a b c d : Nat} (h : 0xf0 ≤ a ∧ a ≤ 0xf4) : decodeN n a b c d = if (1 < n ∧ loOf a ≤ b ∧ b ≤ hiOf a) ∧ (2 < n ∧ 0x80 ≤ c ∧ c ≤ 0xbf) ∧ 3 < n ∧ 0x80 ≤ d ∧ d ≤ 0xbf then (262144 * (a % 8) + 4096 * b + 64 * c + d - 532608, 4) else (65533, 1) := by
  unfold decodeN
  rw [if_neg (by omega), if_neg (by omega), if_neg (by omega)]
  have e1 : loOf a = if a = 0xf0 then 0x90 else 0x80 := by unfold loOf; rw [if_neg (by omega)]
  have e2 : hiOf a = if a = 0xf4 then 0x8f else 0xbf := by unfold hiOf; rw [if_neg (by omega)]
  rw [e1, e2]
  by_cases hc : (1 < n ∧ (if a = 0xf0 then 0x90 else 0x80) ≤ b ∧ b ≤ (if a = 0xf4 then 0x8f else 0xbf)) ∧ (2 < n ∧ 0x80 ≤ c ∧ c ≤ 0xbf) ∧ 3 < n ∧ 0x80 ≤ d ∧ d ≤ 0xbf
  · rw [if_pos hc]
    have h1 : a = 0xf0 → 0x90 ≤ b := fun h => by rw [if_pos h] at hc; exact hc.1.2.1
    have h2 : a = 0xf4 → b ≤ 0x8f := fun h => by rw [if_pos h] at hc; exact hc.1.2.2
    have h3 : 0x80 ≤ b ∧ b ≤ 0xbf := by
      obtain ⟨⟨_, p, q⟩, _⟩ := hc
      constructor
      · split at p <;> omega
      · split at q <;> omega
    rw [if_pos (by omega), if_pos (by omega)]
    simp only [Prod.mk.injEq, and_true]; omega
  · rw [if_neg hc]
    have hbad : ¬ ((1 < n ∧ 0x80 ≤ b ∧ b ≤ 0xbf) ∧ (2 < n ∧ 0x80 ≤ c ∧ c ≤ 0xbf) ∧ 3 < n ∧ 0x80 ≤ d ∧ d ≤ 0xbf) ∨ (a = 0xf0 ∧ b < 0x90) ∨ (a = 0xf4 ∧ 0x8f < b) := by
      by_cases k : (1 < n ∧ 0x80 ≤ b ∧ b ≤ 0xbf) ∧ (2 < n ∧ 0x80 ≤ c ∧ c ≤ 0xbf) ∧ 3 < n ∧ 0x80 ≤ d ∧ d ≤ 0xbf
      · right
        by_cases k1 : a = 0xf0
        · left; refine ⟨k1, ?_⟩
          rw [if_pos k1, if_neg (by omega)] at hc; omega
        · by_cases k2 : a = 0xf4
          · right; refine ⟨k2, ?_⟩
            rw [if_neg k1, if_pos k2] at hc; omega
          · rw [if_neg k1, if_neg k2] at hc; omega
      · left; exact k
    repeat' split
    all_goals first | rfl | (exfalso; omega)

theorem lead_1 {a : Nat} (h : a < 0x80) : leadF (a : Int) = (1, 0, 0) := by unfold leadF; rw [if_pos (by omega)]
theorem lead_0 {a : Nat} (h : 0x80 ≤ a ∧ a < 0xc2 ∨ 0xf4 < a) : leadF (a : Int) = (0, 0, 0) := by unfold leadF; rw [if_neg (by omega), if_pos (by omega)]
theorem lead_2 {a : Nat} (h : 0xc2 ≤ a ∧ a < 0xe0) : leadF (a : Int) = (2, 0x80, 0xbf) := by
  unfold leadF; rw [if_neg (by omega), if_neg (by omega), if_pos (by omega)]
theorem lead_3 {a : Nat} (h : 0xe0 ≤ a ∧ a < 0xf0) : leadF (a : Int) = (3, (loOf a : Int), (hiOf a : Int)) := by
  unfold leadF loOf hiOf
  rw [if_neg (by omega), if_neg (by omega), if_neg (by omega)]
  by_cases k1 : a = 0xe0
  · subst k1; rfl
  · by_cases k2 : a = 0xed
    · subst k2; rfl
    · rw [if_neg (by omega), if_neg (by omega), if_neg (by omega), if_neg (by omega), if_pos (by omega), if_neg k1, if_neg (by omega), if_neg k2, if_neg (by omega)]; rfl
theorem lead_4 {a : Nat} (h : 0xf0 ≤ a ∧ a ≤ 0xf4) : leadF (a : Int) = (4, (loOf a : Int), (hiOf a : Int)) := by
  unfold leadF loOf hiOf
  rw [if_neg (by omega), if_neg (by omega), if_neg (by omega), if_neg (by omega), if_neg (by omega)]
  by_cases k1 : a = 0xf0
  · subst k1; rfl
  · by_cases k2 : a = 0xf4
    · subst k2; rfl
    · rw [if_neg (by omega), if_neg (by omega), if_neg (by omega), if_neg (by omega), if_neg k1, if_neg (by omega), if_neg k2]; rfl

theorem b8 (n : Nat) (x : UInt8) (h : x.toNat = n) : x = UInt8.ofNat n := by
  apply UInt8.toNat_inj.1
  rw [h, UInt8.toNat_ofNat']
  have := x.toNat_lt
  omega
end Go.Proofs.YtledmlgebfbhaaaDoor
