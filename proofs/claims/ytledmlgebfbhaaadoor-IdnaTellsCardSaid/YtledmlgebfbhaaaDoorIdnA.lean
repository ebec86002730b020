/- The small functions of package idna and of its reference. -/
import Derived.Test.YtledmlgebfbhaaaDoorTextB
namespace Go.Proofs.YtledmlgebfbhaaaDoor
open Go.RowKit

set_option maxHeartbeats 400000 in
theorem in_any (c lo hi : Int) (w : World) : Calls Tryd.prog 35 #[.int .i64 c, .int .i64 lo, .int .i64 hi] w fun e w' => e = .returned (.bool (decide (lo ≤ c ∧ c ≤ hi))) ∧ w = w' := by
  have h : c < lo ∨ (lo ≤ c ∧ hi < c) ∨ (lo ≤ c ∧ c ≤ hi) := by omega
  rcases h with h | ⟨h, h2⟩ | ⟨h, h2⟩
  all_goals
    go_enter Tryd.func35, Tryd.ntmps35
    go_wp2
    go_ret
    exact ⟨ret1_bool (by simp; omega), rfl⟩
set_option maxHeartbeats 400000 in
theorem rin_any (c lo hi : Int) (w : World) : Calls Tryd.prog 36 #[.int .i64 c, .int .i64 lo, .int .i64 hi] w fun e w' => e = .returned (.bool (decide (lo ≤ c ∧ c ≤ hi))) ∧ w = w' := by
  have h : c < lo ∨ (lo ≤ c ∧ hi < c) ∨ (lo ≤ c ∧ c ≤ hi) := by omega
  rcases h with h | ⟨h, h2⟩ | ⟨h, h2⟩
  all_goals
    go_enter Tryd.func36, Tryd.ntmps36
    go_wp2
    go_ret
    exact ⟨ret1_bool (by simp; omega), rfl⟩
theorem in_t (c lo hi : Int) (w : World) (h : lo ≤ c ∧ c ≤ hi) : Calls Tryd.prog 35 #[.int .i64 c, .int .i64 lo, .int .i64 hi] w fun e w' => e = .returned (.bool true) ∧ w = w' :=
  (in_any c lo hi w).mono fun e w' h' => ⟨by rw [h'.1, decide_eq_true h], h'.2⟩
theorem in_f (c lo hi : Int) (w : World) (h : ¬ (lo ≤ c ∧ c ≤ hi)) : Calls Tryd.prog 35 #[.int .i64 c, .int .i64 lo, .int .i64 hi] w fun e w' => e = .returned (.bool false) ∧ w = w' :=
  (in_any c lo hi w).mono fun e w' h' => ⟨by rw [h'.1, decide_eq_false h], h'.2⟩
theorem rin_t (c lo hi : Int) (w : World) (h : lo ≤ c ∧ c ≤ hi) : Calls Tryd.prog 36 #[.int .i64 c, .int .i64 lo, .int .i64 hi] w fun e w' => e = .returned (.bool true) ∧ w = w' :=
  (rin_any c lo hi w).mono fun e w' h' => ⟨by rw [h'.1, decide_eq_true h], h'.2⟩
theorem rin_f (c lo hi : Int) (w : World) (h : ¬ (lo ≤ c ∧ c ≤ hi)) : Calls Tryd.prog 36 #[.int .i64 c, .int .i64 lo, .int .i64 hi] w fun e w' => e = .returned (.bool false) ∧ w = w' :=
  (rin_any c lo hi w).mono fun e w' h' => ⟨by rw [h'.1, decide_eq_false h], h'.2⟩

/-- in whose place c stands: the signs -/
def toF (c : Int) : List Int :=
  if (0x41 ≤ c ∧ c ≤ 0x5a) ∨ (0xc0 ≤ c ∧ c ≤ 0xd6) ∨ (0xd8 ≤ c ∧ c ≤ 0xde) ∨ (0x391 ≤ c ∧ c ≤ 0x3a1) ∨ (0x3a3 ≤ c ∧ c ≤ 0x3a9) ∨ (0x410 ≤ c ∧ c ≤ 0x42f) then [c + 0x20]
  else if (0x100 ≤ c ∧ c ≤ 0x12e) ∧ c % 2 = 0 then [c + 1]
  else if c = 0x130 then [0x69, 0x307]
  else if 0x400 ≤ c ∧ c ≤ 0x40f then [c + 0x50]
  else if c = 0x2024 ∨ c = 0x3002 ∨ c = 0xff61 then [0x2e]
  else if c = 0x2100 then [0x61, 0x2f, 0x63]
  else if c = 0x2105 then [0x63, 0x2f, 0x6f]
  else if 0x2460 ≤ c ∧ c ≤ 0x2468 then [c - 0x2460 + 0x31]
  else if 0xff21 ≤ c ∧ c ≤ 0xff3a then [c - 0xfee0 + 0x20]
  else if 0xff01 ≤ c ∧ c ≤ 0xff5e then [c - 0xfee0]
  else if 0x1d7ce ≤ c ∧ c ≤ 0x1d7ff then [0x30 + (c - 0x1d7ce) % 10]
  else []
/-- all ways in which a sign may stand as others -/
theorem to_cases (c : Int) :
    (((0x41 ≤ c ∧ c ≤ 0x5a) ∨ (0xc0 ≤ c ∧ c ≤ 0xd6) ∨ (0xd8 ≤ c ∧ c ≤ 0xde) ∨ (0x391 ≤ c ∧ c ≤ 0x3a1) ∨ (0x3a3 ≤ c ∧ c ≤ 0x3a9) ∨ (0x410 ≤ c ∧ c ≤ 0x42f)) ∧ toF c = [c + 0x20]) ∨
    ((0x100 ≤ c ∧ c ≤ 0x12e) ∧ c % 2 = 0 ∧ toF c = [c + 1]) ∨
    ((0x100 ≤ c ∧ c ≤ 0x12e) ∧ c % 2 = 1 ∧ toF c = []) ∨
    (c = 0x130 ∧ toF c = [0x69, 0x307]) ∨
    ((0x400 ≤ c ∧ c ≤ 0x40f) ∧ toF c = [c + 0x50]) ∨
    ((c = 0x2024 ∨ c = 0x3002 ∨ c = 0xff61) ∧ toF c = [0x2e]) ∨
    (c = 0x2100 ∧ toF c = [0x61, 0x2f, 0x63]) ∨
    (c = 0x2105 ∧ toF c = [0x63, 0x2f, 0x6f]) ∨
    ((0x2460 ≤ c ∧ c ≤ 0x2468) ∧ toF c = [c - 0x2460 + 0x31]) ∨
    ((0xff21 ≤ c ∧ c ≤ 0xff3a) ∧ toF c = [c - 0xfee0 + 0x20]) ∨
    (((0xff01 ≤ c ∧ c ≤ 0xff20) ∨ (0xff3b ≤ c ∧ c ≤ 0xff5e)) ∧ toF c = [c - 0xfee0]) ∨
    ((0x1d7ce ≤ c ∧ c ≤ 0x1d7ff) ∧ toF c = [0x30 + (c - 0x1d7ce) % 10]) ∨
    (¬ ((0x41 ≤ c ∧ c ≤ 0x5a) ∨ (0xc0 ≤ c ∧ c ≤ 0xd6) ∨ (0xd8 ≤ c ∧ c ≤ 0xde) ∨ (0x391 ≤ c ∧ c ≤ 0x3a1) ∨ (0x3a3 ≤ c ∧ c ≤ 0x3a9) ∨ (0x410 ≤ c ∧ c ≤ 0x42f) ∨ (0x100 ≤ c ∧ c ≤ 0x12e) ∨ c = 0x130 ∨ (0x400 ≤ c ∧ c ≤ 0x40f) ∨ c = 0x2024 ∨ c = 0x3002 ∨ c = 0xff61 ∨ c = 0x2100 ∨ c = 0x2105 ∨ (0x2460 ≤ c ∧ c ≤ 0x2468) ∨ (0xff01 ≤ c ∧ c ≤ 0xff5e) ∨ (0x1d7ce ≤ c ∧ c ≤ 0x1d7ff)) ∧ toF c = []) := by
  unfold toF
  split
  · exact .inl ⟨by assumption, rfl⟩
  split
  · exact .inr (.inl ⟨by omega, by omega, rfl⟩)
  by_cases hodd : 0x100 ≤ c ∧ c ≤ 0x12e
  · refine .inr (.inr (.inl ⟨hodd, by omega, ?_⟩))
    iterate 9 rw [if_neg (by omega)]
  split
  · exact .inr (.inr (.inr (.inl ⟨by assumption, rfl⟩)))
  split
  · exact .inr (.inr (.inr (.inr (.inl ⟨by assumption, rfl⟩))))
  split
  · exact .inr (.inr (.inr (.inr (.inr (.inl ⟨by assumption, rfl⟩)))))
  split
  · exact .inr (.inr (.inr (.inr (.inr (.inr (.inl ⟨by assumption, rfl⟩))))))
  split
  · exact .inr (.inr (.inr (.inr (.inr (.inr (.inr (.inl ⟨by assumption, rfl⟩)))))))
  split
  · exact .inr (.inr (.inr (.inr (.inr (.inr (.inr (.inr (.inl ⟨by assumption, rfl⟩))))))))
  split
  · exact .inr (.inr (.inr (.inr (.inr (.inr (.inr (.inr (.inr (.inl ⟨by assumption, rfl⟩)))))))))
  split
  · exact .inr (.inr (.inr (.inr (.inr (.inr (.inr (.inr (.inr (.inr (.inl ⟨by omega, rfl⟩))))))))))
  split
  · exact .inr (.inr (.inr (.inr (.inr (.inr (.inr (.inr (.inr (.inr (.inr (.inl ⟨by assumption, rfl⟩)))))))))))
  · exact .inr (.inr (.inr (.inr (.inr (.inr (.inr (.inr (.inr (.inr (.inr (.inr ⟨by omega, rfl⟩)))))))))))
end Go.Proofs.YtledmlgebfbhaaaDoor
