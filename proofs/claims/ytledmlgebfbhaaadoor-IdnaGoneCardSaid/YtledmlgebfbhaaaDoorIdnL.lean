/- Plain laws of layer 8: the signs in whose place one stands stand as they are themselves. -/
import Derived.Test.YtledmlgebfbhaaaDoorIdnI
namespace Go.Proofs.YtledmlgebfbhaaaDoor
open Go.RowKit
set_option maxRecDepth 10000

theorem toF_nil {x : Int} (h : ¬ ((0x41 ≤ x ∧ x ≤ 0x5a) ∨ (0xc0 ≤ x ∧ x ≤ 0xd6) ∨ (0xd8 ≤ x ∧ x ≤ 0xde) ∨ (0x391 ≤ x ∧ x ≤ 0x3a1) ∨ (0x3a3 ≤ x ∧ x ≤ 0x3a9) ∨ (0x410 ≤ x ∧ x ≤ 0x42f) ∨ ((0x100 ≤ x ∧ x ≤ 0x12e) ∧ x % 2 = 0) ∨ x = 0x130 ∨ (0x400 ≤ x ∧ x ≤ 0x40f) ∨ x = 0x2024 ∨ x = 0x3002 ∨ x = 0xff61 ∨ x = 0x2100 ∨ x = 0x2105 ∨ (0x2460 ≤ x ∧ x ≤ 0x2468) ∨ (0xff01 ≤ x ∧ x ≤ 0xff5e) ∨ (0x1d7ce ≤ x ∧ x ≤ 0x1d7ff))) : toF x = [] := by
  unfold toF
  iterate 11 rw [if_neg (by omega)]
theorem mp_valid {x : Int} (h : ¬ ((0x41 ≤ x ∧ x ≤ 0x5a) ∨ (0xc0 ≤ x ∧ x ≤ 0xd6) ∨ (0xd8 ≤ x ∧ x ≤ 0xde) ∨ (0x391 ≤ x ∧ x ≤ 0x3a1) ∨ (0x3a3 ≤ x ∧ x ≤ 0x3a9) ∨ (0x410 ≤ x ∧ x ≤ 0x42f) ∨ ((0x100 ≤ x ∧ x ≤ 0x12e) ∧ x % 2 = 0) ∨ x = 0x130 ∨ (0x400 ≤ x ∧ x ≤ 0x40f) ∨ x = 0x2024 ∨ x = 0x3002 ∨ x = 0xff61 ∨ x = 0x2100 ∨ x = 0x2105 ∨ (0x2460 ≤ x ∧ x ≤ 0x2468) ∨ (0xff01 ≤ x ∧ x ≤ 0xff5e) ∨ (0x1d7ce ≤ x ∧ x ≤ 0x1d7ff)))
    (hv : vlP x) : mapF x = (enc x, 1) := by
  have hg : gnF x = false := by
    unfold vlP at hv
    unfold gnF
    exact decide_eq_false (by omega)
  exact mapF_valid (toF_nil h) hg ((vl_iff x).mpr hv)
/-- the signs in whose place one stands -/
theorem to_targets (c : Int) : ∀ x ∈ toF c, mapF x = (enc x, 1) ∧ x ≠ c ∧ Utf8.valid x = true := by
  intro x hx
  rcases to_cases c with ⟨h, e⟩ | ⟨h, h2, e⟩ | ⟨h, h2, e⟩ | ⟨h, e⟩ | ⟨h, e⟩ | ⟨h, e⟩ | ⟨h, e⟩ | ⟨h, e⟩ | ⟨h, e⟩ | ⟨h, e⟩ | ⟨h, e⟩ | ⟨h, e⟩ | ⟨h, e⟩
  all_goals rw [e] at hx
  all_goals clear e
  · simp only [List.mem_singleton] at hx
    subst hx
    exact ⟨mp_valid (by omega) (by unfold vlP; omega), by omega, (valid_iff _).mpr (by omega)⟩
  · simp only [List.mem_singleton] at hx
    subst hx
    exact ⟨mp_valid (by omega) (by unfold vlP; omega), by omega, (valid_iff _).mpr (by omega)⟩
  · simp at hx
  · simp only [List.mem_cons, List.not_mem_nil, or_false] at hx
    rcases hx with rfl | rfl
    all_goals exact ⟨mp_valid (by omega) (by unfold vlP; omega), by omega, (valid_iff _).mpr (by omega)⟩
  · simp only [List.mem_singleton] at hx
    subst hx
    exact ⟨mp_valid (by omega) (by unfold vlP; omega), by omega, (valid_iff _).mpr (by omega)⟩
  · simp only [List.mem_singleton] at hx
    subst hx
    exact ⟨mp_valid (by omega) (by unfold vlP; omega), by omega, (valid_iff _).mpr (by omega)⟩
  · simp only [List.mem_cons, List.not_mem_nil, or_false] at hx
    rcases hx with rfl | rfl | rfl
    all_goals exact ⟨mp_valid (by omega) (by unfold vlP; omega), by omega, (valid_iff _).mpr (by omega)⟩
  · simp only [List.mem_cons, List.not_mem_nil, or_false] at hx
    rcases hx with rfl | rfl | rfl
    all_goals exact ⟨mp_valid (by omega) (by unfold vlP; omega), by omega, (valid_iff _).mpr (by omega)⟩
  · simp only [List.mem_singleton] at hx
    subst hx
    exact ⟨mp_valid (by omega) (by unfold vlP; omega), by omega, (valid_iff _).mpr (by omega)⟩
  · simp only [List.mem_singleton] at hx
    subst hx
    exact ⟨mp_valid (by omega) (by unfold vlP; omega), by omega, (valid_iff _).mpr (by omega)⟩
  · simp only [List.mem_singleton] at hx
    subst hx
    exact ⟨mp_valid (by omega) (by unfold vlP; omega), by omega, (valid_iff _).mpr (by omega)⟩
  · simp only [List.mem_singleton] at hx
    subst hx
    exact ⟨mp_valid (by omega) (by unfold vlP; omega), by omega, (valid_iff _).mpr (by omega)⟩
  · simp at hx
theorem signs_one {c : Int} (h : Utf8.valid c = true) : signs (enc c) = [c] := by
  have := signs_enc c []
  rw [List.append_nil, signs_nil, fix_of h] at this
  exact this
theorem vl_valid {c : Int} (h : vlF c = true) : Utf8.valid c = true := by
  have := (vl_iff c).mp h
  unfold vlP at this
  exact (valid_iff c).mpr (by omega)
theorem signs_to (c : Int) : signs (joinF (toF c)) = toF c := by
  have := signs_join (toF c) []
  rw [List.append_nil, signs_nil, List.append_nil, map_fix (fun x hx => (to_targets c x hx).2.2)] at this
  exact this
/-- how a sign stands, and what is put down -/
theorem map_kinds (c : Int) : ((mapF c) = (enc c, 1) ∧ toF c = [] ∧ signs (enc c) = [c]) ∨ (mapF c = (joinF (toF c), 2) ∧ 1 ≤ (toF c).length ∧ (toF c).length ≤ 3) ∨ (mapF c = ([], 3)) ∨ (mapF c = ([], 0)) := by
  rcases map_cases c with ⟨b, h, _, rfl, e⟩ | ⟨h, h2, e⟩ | ⟨h, h2, h3, e⟩ | ⟨h, h2, h3, e⟩
  · refine .inr (.inl ⟨e, ?_, toF_len c⟩)
    cases ht : toF c with
    | nil => exact absurd ht h
    | cons x r => simp
  · exact .inr (.inr (.inl e))
  · exact .inl ⟨e, h, signs_one (vl_valid h3)⟩
  · exact .inr (.inr (.inr e))
end Go.Proofs.YtledmlgebfbhaaaDoor
