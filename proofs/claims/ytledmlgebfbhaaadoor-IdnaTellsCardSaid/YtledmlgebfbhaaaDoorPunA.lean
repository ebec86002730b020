/- The small functions of package puny, of its reference, and the digits of package ascii. -/
import Derived.Test.YtledmlgebfbhaaaDoorProg
import Derived.Test.YtledmlgebfbhaaaDoorBase
namespace Go.Proofs.YtledmlgebfbhaaaDoor
open Go.RowKit

/-- is a number a sign? -/
def sg (c : Int) : Bool := decide (0 ≤ c ∧ c ≤ 0x10ffff ∧ (c < 0xd800 ∨ 0xdfff < c))
theorem sg_iff {c : Int} : sg c = true ↔ 0 ≤ c ∧ c ≤ 0x10ffff ∧ (c < 0xd800 ∨ 0xdfff < c) := by unfold sg; exact decide_eq_true_iff
theorem sg_of {c : Int} {b : Bool} (h : b = true ↔ (0 ≤ c ∧ c ≤ 0x10ffff ∧ (c < 0xd800 ∨ 0xdfff < c))) : Ending.returned (.bool b) = .returned (.bool (sg c)) := by
  refine ret1_bool ?_
  rw [Bool.eq_iff_iff, h, sg_iff]

/-- the bound of a number's j-th digit -/
def bnd (j bias : Int) : Int := min (max (36 * (j + 1) - bias) 1) 26
theorem bnd_range (j bias : Int) : 1 ≤ bnd j bias ∧ bnd j bias ≤ 26 := by unfold bnd; omega
/-- the digit that is worth d -/
def dig (d : Int) : Int := if d < 26 then 97 + d else 22 + d
/-- what a byte is worth as a digit -/
def wrt (c : Int) : Int := if 97 ≤ c ∧ c ≤ 122 then c - 97 else if 65 ≤ c ∧ c ≤ 90 then c - 65 else if 48 ≤ c ∧ c ≤ 57 then c - 22 else -1
theorem wrt_range (c : Int) : -1 ≤ wrt c ∧ wrt c ≤ 35 := by unfold wrt; split <;> (try split) <;> (try split) <;> omega
/-- what a byte is worth in a base -/
def dgt (c base : Int) : Int :=
  let n := if 48 ≤ c ∧ c ≤ 57 then c - 48 else if 97 ≤ c ∧ c ≤ 122 then c - 87 else if 65 ≤ c ∧ c ≤ 90 then c - 55 else -1
  if base ≤ n then -1 else n

set_option maxHeartbeats 400000 in
theorem isSign_any (c : Int) (w : World) : Calls Tryd.prog 40 #[.int .i64 c] w fun e w' => e = .returned (.bool (sg c)) ∧ w = w' := by
  have h : c < 0 ∨ (0 ≤ c ∧ 0x10ffff < c) ∨ (0 ≤ c ∧ c ≤ 0x10ffff ∧ c < 0xd800) ∨ (0 ≤ c ∧ c ≤ 0x10ffff ∧ 0xd800 ≤ c ∧ 0xdfff < c) ∨ (0 ≤ c ∧ c ≤ 0x10ffff ∧ 0xd800 ≤ c ∧ c ≤ 0xdfff) := by omega
  rcases h with h | ⟨h, h1⟩ | ⟨h, h1, h2⟩ | ⟨h, h1, h2, h3⟩ | ⟨h, h1, h2, h3⟩
  all_goals
    go_enter Tryd.func40, Tryd.ntmps40
    go_wp2
    go_ret
    exact ⟨sg_of (by simp; omega), rfl⟩
set_option maxHeartbeats 400000 in
theorem rSign_any (c : Int) (w : World) : Calls Tryd.prog 70 #[.int .i64 c] w fun e w' => e = .returned (.bool (sg c)) ∧ w = w' := by
  have h : c < 0 ∨ (0 ≤ c ∧ 0x10ffff < c) ∨ (0 ≤ c ∧ c ≤ 0x10ffff ∧ c < 0xd800) ∨ (0 ≤ c ∧ c ≤ 0x10ffff ∧ 0xd800 ≤ c ∧ 0xdfff < c) ∨ (0 ≤ c ∧ c ≤ 0x10ffff ∧ 0xd800 ≤ c ∧ c ≤ 0xdfff) := by omega
  rcases h with h | ⟨h, h1⟩ | ⟨h, h1, h2⟩ | ⟨h, h1, h2, h3⟩ | ⟨h, h1, h2, h3⟩
  all_goals
    go_enter Tryd.func70, Tryd.ntmps70
    go_wp2
    go_ret
    exact ⟨sg_of (by simp; omega), rfl⟩

set_option maxHeartbeats 400000 in
theorem bound_any (j bias : Int) (w : World) (h : 0 ≤ j ∧ j ≤ 1000000) (h2 : 0 ≤ bias ∧ bias ≤ 1000000) : Calls Tryd.prog 57 #[.int .i64 j, .int .i64 bias] w fun e w' => e = .returned (.int .i64 (bnd j bias)) ∧ w = w' := by
  go_enter Tryd.func57, Tryd.ntmps57
  go_wp2
  all_goals go_ret
  all_goals exact ⟨ret1_int (by unfold bnd; omega), rfl⟩
set_option maxHeartbeats 400000 in
theorem rbound_any (j bias : Int) (w : World) (h : 0 ≤ j ∧ j ≤ 1000000) (h2 : 0 ≤ bias ∧ bias ≤ 1000000) : Calls Tryd.prog 85 #[.int .i64 j, .int .i64 bias] w fun e w' => e = .returned (.int .i64 (bnd j bias)) ∧ w = w' := by
  go_enter Tryd.func85, Tryd.ntmps85
  go_wp2
  all_goals go_ret
  all_goals exact ⟨ret1_int (by unfold bnd; omega), rfl⟩
set_option maxHeartbeats 400000 in
theorem digit_any (d : Int) (w : World) (h : 0 ≤ d ∧ d < 36) : Calls Tryd.prog 82 #[.int .i64 d] w fun e w' => e = .returned (.int .u8 (dig d)) ∧ w = w' := by
  have h1 : d < 26 ∨ 26 ≤ d := by omega
  rcases h1 with h1 | h1
  all_goals
    go_enter Tryd.func82, Tryd.ntmps82
    go_wp2
    go_ret
    exact ⟨ret1_int (by unfold dig; split <;> omega), rfl⟩
set_option maxHeartbeats 400000 in
theorem worth_any (c : Int) (w : World) (h : 0 ≤ c ∧ c < 256) : Calls Tryd.prog 56 #[.int .u8 c] w fun e w' => e = .returned (.int .i64 (wrt c)) ∧ w = w' := by
  have h1 : c < 48 ∨ (48 ≤ c ∧ c ≤ 57) ∨ (57 < c ∧ c < 65) ∨ (65 ≤ c ∧ c ≤ 90) ∨ (90 < c ∧ c < 97) ∨ (97 ≤ c ∧ c ≤ 122) ∨ 122 < c := by omega
  rcases h1 with h1 | ⟨h1, h2⟩ | ⟨h1, h2⟩ | ⟨h1, h2⟩ | ⟨h1, h2⟩ | ⟨h1, h2⟩ | h1
  all_goals
    go_enter Tryd.func56, Tryd.ntmps56
    go_wp2
    go_ret
    exact ⟨ret1_int (by unfold wrt; repeat (first | rw [if_pos (by omega)] | rw [if_neg (by omega)]); try omega), rfl⟩
theorem dgt_of {c base n : Int} (h : (48 ≤ c ∧ c ≤ 57 ∧ n = c - 48) ∨ (97 ≤ c ∧ c ≤ 122 ∧ n = c - 87) ∨ (65 ≤ c ∧ c ≤ 90 ∧ n = c - 55) ∨ (¬ (48 ≤ c ∧ c ≤ 57) ∧ ¬ (97 ≤ c ∧ c ≤ 122) ∧ ¬ (65 ≤ c ∧ c ≤ 90) ∧ n = -1)) :
    dgt c base = if base ≤ n then -1 else n := by
  have : (if 48 ≤ c ∧ c ≤ 57 then c - 48 else if 97 ≤ c ∧ c ≤ 122 then c - 87 else if 65 ≤ c ∧ c ≤ 90 then c - 55 else -1) = n := by
    rcases h with ⟨h1, h2, rfl⟩ | ⟨h1, h2, rfl⟩ | ⟨h1, h2, rfl⟩ | ⟨h1, h2, h3, rfl⟩
    · rw [if_pos ⟨h1, h2⟩]
    · rw [if_neg (by omega), if_pos ⟨h1, h2⟩]
    · rw [if_neg (by omega), if_neg (by omega), if_pos ⟨h1, h2⟩]
    · rw [if_neg h1, if_neg h2, if_neg h3]
  unfold dgt
  simp only [this]
set_option maxHeartbeats 400000 in
theorem digitR_any (c base : Int) (w : World) (h : 0 ≤ c ∧ c < 256) (hb : 0 ≤ base ∧ base ≤ 1000) : Calls Tryd.prog 92 #[.int .u8 c, .int .i64 base] w fun e w' => e = .returned (.int .i64 (dgt c base)) ∧ w = w' := by
  have h1 : c < 48 ∨ (48 ≤ c ∧ c ≤ 57) ∨ (57 < c ∧ c < 65) ∨ (65 ≤ c ∧ c ≤ 90) ∨ (90 < c ∧ c < 97) ∨ (97 ≤ c ∧ c ≤ 122) ∨ 122 < c := by omega
  rcases h1 with h1 | ⟨h1, h2⟩ | ⟨h1, h2⟩ | ⟨h1, h2⟩ | ⟨h1, h2⟩ | ⟨h1, h2⟩ | h1
  all_goals
    go_enter Tryd.func92, Tryd.ntmps92
    go_wp2
    all_goals go_ret
    all_goals exact ⟨ret1_int (by first | (rw [dgt_of (n := c - 48) (by omega)]; split <;> omega) | (rw [dgt_of (n := c - 87) (by omega)]; split <;> omega) | (rw [dgt_of (n := c - 55) (by omega)]; split <;> omega) | (rw [dgt_of (n := -1) (by omega)]; split <;> omega)), rfl⟩
theorem wrt_dgt (c : Int) (h : 0 ≤ c ∧ c < 256) : (if 10 ≤ dgt c 36 then dgt c 36 - 10 else if 0 ≤ dgt c 36 then dgt c 36 + 26 else -1) = wrt c := by
  unfold wrt
  have h1 : c < 48 ∨ (48 ≤ c ∧ c ≤ 57) ∨ (57 < c ∧ c < 65) ∨ (65 ≤ c ∧ c ≤ 90) ∨ (90 < c ∧ c < 97) ∨ (97 ≤ c ∧ c ≤ 122) ∨ 122 < c := by omega
  have h2 : dgt c 36 = if 48 ≤ c ∧ c ≤ 57 then c - 48 else if 97 ≤ c ∧ c ≤ 122 then c - 87 else if 65 ≤ c ∧ c ≤ 90 then c - 55 else -1 := by
    unfold dgt
    simp only
    rw [if_neg]
    split <;> (try split) <;> (try split) <;> omega
  rw [h2]
  rcases h1 with h1 | ⟨h1, h2⟩ | ⟨h1, h2⟩ | ⟨h1, h2⟩ | ⟨h1, h2⟩ | ⟨h1, h2⟩ | h1
  all_goals
    repeat (first | rw [if_pos (by omega)] | rw [if_neg (by omega)])
    try omega
set_option maxHeartbeats 400000 in
theorem rworth_any (c : Int) (w : World) (h : 0 ≤ c ∧ c < 256) : Calls Tryd.prog 84 #[.int .u8 c] w fun e w' => e = .returned (.int .i64 (wrt c)) ∧ w = w' := by
  rw [← wrt_dgt c h]
  have hr : -1 ≤ dgt c 36 ∧ dgt c 36 ≤ 35 := by unfold dgt; simp only; split <;> (try split) <;> (try split) <;> (try split) <;> omega
  have hd := fun W => digitR_any c 36 W h (by omega)
  generalize dgt c 36 = d at *
  have HD := Lib.hid hd; clear hd
  go_enter Tryd.func84, Tryd.ntmps84
  go_wp2_with fail
  refine (HD.out _).mono ?_
  rintro e w1 ⟨rfl, rfl⟩
  go_wp2
  all_goals go_ret
  all_goals exact ⟨rfl, rfl⟩
end Go.Proofs.YtledmlgebfbhaaaDoor
