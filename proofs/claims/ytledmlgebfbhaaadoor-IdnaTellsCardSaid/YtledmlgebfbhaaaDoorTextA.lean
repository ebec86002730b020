/- The small functions of package text and of its reference: what each computes. -/
import Derived.Test.YtledmlgebfbhaaaDoorProg
import Derived.Test.YtledmlgebfbhaaaDoorBase
namespace Go.Proofs.YtledmlgebfbhaaaDoor
open Go.RowKit

/-- what 'behind' tells of a byte: the ends of the second byte, and how many there are -/
def behindF (c : Int) : Int × Int × Int :=
  if 0xc2 ≤ c ∧ c ≤ 0xdf then (0x80, 0xbf, 2)
  else if c = 0xe0 then (0xa0, 0xbf, 3)
  else if c = 0xed then (0x80, 0x9f, 3)
  else if 0xe1 ≤ c ∧ c ≤ 0xef then (0x80, 0xbf, 3)
  else if c = 0xf0 then (0x90, 0xbf, 4)
  else if 0xf1 ≤ c ∧ c ≤ 0xf3 then (0x80, 0xbf, 4)
  else if c = 0xf4 then (0x80, 0x8f, 4)
  else (0, 0, 1)

set_option maxHeartbeats 400000 in
theorem behind_any (c : Int) (w : World) :
    Calls Tryd.prog 75 #[.int .u8 c] w fun e w' => e = .returned (.tuple #[.int .u8 (behindF c).1, .int .u8 (behindF c).2.1, .int .i64 (behindF c).2.2]) ∧ w = w' := by
  go_enter Tryd.func75, Tryd.ntmps75
  go_wp2
  all_goals go_ret3
  all_goals refine ⟨ret3_eq ?_, rfl⟩
  all_goals try simp only [beq_iff_eq, beq_eq_false_iff_ne] at *
  all_goals unfold behindF
  all_goals repeat (first | rw [if_pos (by omega)] | rw [if_neg (by omega)])

/-- what 'lead' tells of a byte -/
def leadF (c : Int) : Int × Int × Int :=
  if c < 0x80 then (1, 0, 0)
  else if c < 0xc2 ∨ c > 0xf4 then (0, 0, 0)
  else if c < 0xe0 then (2, 0x80, 0xbf)
  else if c = 0xe0 then (3, 0xa0, 0xbf)
  else if c = 0xed then (3, 0x80, 0x9f)
  else if c = 0xf0 then (4, 0x90, 0xbf)
  else if c = 0xf4 then (4, 0x80, 0x8f)
  else if c < 0xf0 then (3, 0x80, 0xbf)
  else (4, 0x80, 0xbf)

set_option maxHeartbeats 400000 in
theorem lead_any (c : Int) (w : World) :
    Calls Tryd.prog 68 #[.int .u8 c] w fun e w' => e = .returned (.tuple #[.int .i64 (leadF c).1, .int .u8 (leadF c).2.1, .int .u8 (leadF c).2.2]) ∧ w = w' := by
  go_enter Tryd.func68, Tryd.ntmps68
  go_wp2
  all_goals go_ret3
  all_goals refine ⟨ret3_eq ?_, rfl⟩
  all_goals try simp only [beq_iff_eq, beq_eq_false_iff_ne] at *
  all_goals unfold leadF
  all_goals repeat (first | rw [if_pos (by omega)] | rw [if_neg (by omega)])

/-- a sign's bytes -/
def enc (c : Int) : Bytes := ls (Utf8.encode c)

theorem encode_bad {c : Int} (h : Utf8.valid c = false) : Utf8.encode c = bs [0xef, 0xbf, 0xbd] := by
  unfold Utf8.encode
  rw [h]
  have e : (if false = true then c.toNat else Utf8.runeError) = 65533 := rfl
  simp only [e]
  rfl
theorem valid_false {c : Int} (h : c < 0 ∨ 0x10ffff < c ∨ (0xd800 ≤ c ∧ c ≤ 0xdfff)) : Utf8.valid c = false := by
  unfold Utf8.valid
  rw [Bool.or_eq_false_iff]
  simp only [Bool.and_eq_false_iff, decide_eq_false_iff_not]
  omega
theorem sign_bad {c : Int} (h : c < 0 ∨ 0x10ffff < c ∨ (0xd800 ≤ c ∧ c ≤ 0xdfff)) : Ending.returned (.string ⟨#[239, 191, 189]⟩) = .returned (S (enc c)) := by
  unfold S enc
  rw [bs_ls, encode_bad (valid_false h)]
  rfl
theorem sign_ok {c : Int} : Ending.returned (.string (Utf8.encode c)) = .returned (S (enc c)) := by
  unfold S enc
  rw [bs_ls]

set_option maxHeartbeats 400000 in
theorem sign_any (c : Int) (w : World) :
    Calls Tryd.prog 17 #[.int .i64 c] w fun e w' => e = .returned (S (enc c)) ∧ w = w' := by
  go_enter Tryd.func17, Tryd.ntmps17
  go_wp2
  all_goals go_ret
  all_goals refine ⟨?_, rfl⟩
  all_goals first | exact sign_ok | exact sign_bad (by omega)

end Go.Proofs.YtledmlgebfbhaaaDoor
