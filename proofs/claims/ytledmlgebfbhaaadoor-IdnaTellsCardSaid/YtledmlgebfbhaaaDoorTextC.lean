/- The reference's Ints: two rows of numbers. -/
import Derived.Test.YtledmlgebfbhaaaDoorProg
import Derived.Test.YtledmlgebfbhaaaDoorBase
import Derived.Deep.QuietTactic
import Derived.BigQuiet
namespace Go.Proofs.YtledmlgebfbhaaaDoor
open Go.RowKit

/-- numbers as cells -/
abbrev I64s (l : List Int) : List Value := l.map (Value.int .i64)

theorem ints_step {xs ys : List Int} {k : Nat} (h1 : k < xs.length) (h2 : k < ys.length) (ht : xs.take k = ys.take k) (he : xs[k] = ys[k]) : xs.take (k + 1) = ys.take (k + 1) := by
  rw [List.take_succ_eq_append_getElem h1, List.take_succ_eq_append_getElem h2, ht, he]

set_option maxHeartbeats 400000 in
theorem ints_core (xs ys : List Int) (c1 c2 : Nat) (w : World) (hl : xs.length = ys.length) (hm : xs.length ≤ maxLen) (b1 o1 b2 o2 : Nat)
    (h1 : At w b1 o1 (I64s xs)) (h2 : At w b2 o2 (I64s ys)) :
    Calls Tryd.prog 18 #[.slice (some ⟨b1, o1, none⟩) xs.length c1, .slice (some ⟨b2, o2, none⟩) ys.length c2] w fun e w' => e = .returned (.bool (decide (xs = ys))) ∧ Below w.heap.size w w' := by
  unfold maxLen at hm
  have HL := Lib.hid hl
  obtain ⟨n, hn⟩ : ∃ n, n = xs.length := ⟨_, rfl⟩
  have hn2 : n = ys.length := by omega
  rw [← hn, ← hn2]
  rw [← hn] at hm
  have HN := Lib.hid hn; clear hn
  have HN2 := Lib.hid hn2; clear hn2 hl
  have hne : ((n : Int) != n) = false := by simp
  go_enter Tryd.func18, Tryd.ntmps18
  go_wp2
  go_loopw [5] (fun i wr => ∃ k d : Nat, k ≤ n ∧ i = .int .i64 k ∧ xs.take k = ys.take k ∧ wr = w.drewN d) (fun i _ => n - (intOf i).toNat)
  case atStart => exact ⟨0, 0, Nat.zero_le _, rfl, by simp, rfl⟩
  case round =>
    obtain ⟨k, d, hk, rfl, ht, rfl⟩ := hrel
    have HT := Lib.hid ht; clear ht
    by_cases hlt : k < n
    · have hx : k < xs.length := by have := HN.out; omega
      have hy : k < ys.length := by have := HN2.out; omega
      have hc1 := h1 k (by simpa using hx)
      have hc2 := h2 k (by simpa using hy)
      simp only [List.getElem_map] at hc1 hc2
      by_cases he : xs[k] = ys[k]
      · have he' : (xs[k] != ys[k]) = false := by simp [he]
        have HE := Lib.hid he; clear he
        go_wp2
        go_quiet (fail)
        go_wp2
        go_roundw
        case rel => exact ⟨k + 1, _, by omega, by go_num, ints_step hx hy HT.out HE.out, rfl⟩
        case measure => simp [intOf]; omega
      · have he' : (xs[k] != ys[k]) = true := by simp [he]
        have hfin : decide (xs = ys) = false := by
          rw [decide_eq_false_iff_not]
          intro h
          subst h
          exact he rfl
        have HF := Lib.hid hfin; clear hfin
        clear he
        go_wp2
        go_quiet (fail)
        go_wp2
        go_ret
        exact ⟨ret1_bool HF.out.symm, drewN_below (drewN_below (Below.refl _ _) _) _⟩
    · go_wp2
      go_ret
      refine ⟨ret1_bool ?_, drewN_below (Below.refl _ _) _⟩
      have e1 := HN.out
      have e2 := HN2.out
      have h := HT.out
      rw [List.take_of_length_le (by omega), List.take_of_length_le (by omega)] at h
      simp [h]

set_option maxHeartbeats 400000 in
theorem ints_differ (xs ys : List Int) (A1 A2 : Option Addr) (c1 c2 : Nat) (w : World) (hl : xs.length ≠ ys.length) :
    Calls Tryd.prog 18 #[.slice A1 xs.length c1, .slice A2 ys.length c2] w fun e w' => e = .returned (.bool (decide (xs = ys))) ∧ Below w.heap.size w w' := by
  have hfin : decide (xs = ys) = false := by
    rw [decide_eq_false_iff_not]
    intro h
    exact hl (by rw [h])
  have HF := Lib.hid hfin; clear hfin
  obtain ⟨n, hn⟩ : ∃ n, n = xs.length := ⟨_, rfl⟩
  obtain ⟨m, hm⟩ : ∃ m, m = ys.length := ⟨_, rfl⟩
  rw [← hn, ← hm] at hl
  rw [← hn, ← hm]
  clear hn hm
  have hne : ((n : Int) != m) = true := by simp; omega
  clear hl
  go_enter Tryd.func18, Tryd.ntmps18
  go_wp2
  go_ret
  exact ⟨ret1_bool HF.out.symm, Below.refl _ _⟩

set_option maxHeartbeats 400000 in
theorem ints_none (A1 A2 : Option Addr) (c1 c2 : Nat) (w : World) :
    Calls Tryd.prog 18 #[.slice A1 0 c1, .slice A2 0 c2] w fun e w' => e = .returned (.bool true) ∧ Below w.heap.size w w' := by
  go_enter Tryd.func18, Tryd.ntmps18
  go_wp2
  refine wp_loop_rounds 1 ?_
  rw [rounds_succ]
  go_wp2
  go_ret
  exact ⟨rfl, Below.refl _ _⟩

/-- Ints: are two rows of numbers the same? -/
theorem ints_any (xs ys : List Int) (v1 v2 : Value) (w : World) (B1 B2 : Nat) (h1 : Sl B1 w v1 (I64s xs)) (h2 : Sl B2 w v2 (I64s ys)) :
    Calls Tryd.prog 18 #[v1, v2] w fun e w' => e = .returned (.bool (decide (xs = ys))) ∧ Below w.heap.size w w' := by
  obtain ⟨c1, hc1, hm1, h1⟩ := h1
  obtain ⟨c2, hc2, hm2, h2⟩ := h2
  have e1 : (I64s xs).length = xs.length := by simp
  have e2 : (I64s ys).length = ys.length := by simp
  rw [e1] at hc1 h1
  rw [e2] at hc2 h2
  have none_ : ∀ a1 a2 d1 d2, Calls Tryd.prog 18 #[.slice a1 0 d1, .slice a2 0 d2] w fun e w' => e = .returned (.bool (decide (([] : List Int) = []))) ∧ Below w.heap.size w w' :=
    fun a1 a2 d1 d2 => (ints_none a1 a2 d1 d2 w).mono fun e w' h => ⟨by rw [h.1]; simp, h.2⟩
  by_cases hl : xs.length = ys.length
  · rcases h1 with ⟨hn, a1, rfl⟩ | ⟨b1, o1, _, rfl, ha1⟩
    · obtain rfl : xs = [] := by simpa using hn
      obtain rfl : ys = [] := List.eq_nil_of_length_eq_zero (by simpa using hl.symm)
      rcases h2 with ⟨_, a2, rfl⟩ | ⟨b2, o2, _, rfl, ha2⟩
      · exact none_ _ _ _ _
      · exact none_ _ _ _ _
    · rcases h2 with ⟨hn, a2, rfl⟩ | ⟨b2, o2, _, rfl, ha2⟩
      · obtain rfl : ys = [] := by simpa using hn
        obtain rfl : xs = [] := List.eq_nil_of_length_eq_zero (by simpa using hl)
        exact none_ _ _ _ _
      · exact ints_core xs ys c1 c2 w hl (by omega) b1 o1 b2 o2 ha1 ha2
  · rcases h1 with ⟨hn, a1, rfl⟩ | ⟨b1, o1, _, rfl, ha1⟩
    · obtain rfl : xs = [] := by simpa using hn
      rcases h2 with ⟨hn, a2, rfl⟩ | ⟨b2, o2, _, rfl, ha2⟩
      · obtain rfl : ys = [] := by simpa using hn
        exact absurd rfl hl
      · simp only [List.length_nil] at *
        exact ints_differ [] ys _ _ _ _ w hl
    · rcases h2 with ⟨hn, a2, rfl⟩ | ⟨b2, o2, _, rfl, ha2⟩
      · obtain rfl : ys = [] := by simpa using hn
        exact ints_differ xs [] _ _ _ _ w hl
      · exact ints_differ xs ys _ _ _ _ w hl

end Go.Proofs.YtledmlgebfbhaaaDoor
