/- puny: nextBias, read, and their like in the reference. -/
import Derived.Test.YtledmlgebfbhaaaDoorPunB
namespace Go.Proofs.YtledmlgebfbhaaaDoor
open Go.RowKit

/-- the last steps of a bias -/
def biasGo : Nat → Int → Int → Int
  | 0, e, k => k + 36 * e / (e + 38)
  | f + 1, e, k => if 455 < e then biasGo f (e / 35) (k + 36) else k + 36 * e / (e + 38)
theorem biasGo_end (f : Nat) {e k : Int} (h : e ≤ 455) : biasGo f e k = k + 36 * e / (e + 38) := by
  cases f with
  | zero => rfl
  | succ f => unfold biasGo; rw [if_neg (by omega)]
/-- the bias behind the number d -/
def nb (d n : Int) (first : Bool) : Int :=
  let e := if first then d / 700 else d / 2
  biasGo 64 (e + e / n) 0

theorem tdiv_pos {a b : Int} (h : 0 ≤ a) : Int.tdiv a b = a / b := Int.tdiv_eq_ediv_of_nonneg h

set_option maxHeartbeats 1000000 in
theorem nextBias_any (d n : Int) (first : Bool) (w : World) (hd : 0 ≤ d ∧ d ≤ 1099511627776) (hn : 1 ≤ n ∧ n ≤ 1000) :
    Calls Tryd.prog 42 #[.int .i64 d, .int .i64 n, .bool first] w fun e w' => e = .returned (.int .i64 (nb d n first)) ∧ w = w' := by
  obtain ⟨T, hT⟩ : ∃ T, T = nb d n first := ⟨_, rfl⟩
  rw [← hT]
  obtain ⟨e, he⟩ : ∃ e, e = if first then d / 700 else d / 2 := ⟨_, rfl⟩
  have hT2 : T = biasGo 64 (e + e / n) 0 := by rw [hT, he]; rfl
  clear hT
  have he2 : 0 ≤ e ∧ e ≤ 549755813888 := by rw [he]; split <;> omega
  have hq : 0 ≤ e / n ∧ e / n ≤ e := ⟨Int.ediv_nonneg he2.1 (by omega), Int.ediv_le_self _ he2.1⟩
  have hen : Int.tdiv e n = e / n := tdiv_pos he2.1
  have HT := Lib.hid hT2; clear hT2
  cases first
  all_goals
    simp only [Bool.false_eq_true, if_false, if_true] at he
    have hd1 : Int.tdiv d 700 = d / 700 := tdiv_pos hd.1
    have hd2 : Int.tdiv d 2 = d / 2 := tdiv_pos hd.1
    subst he
    go_enter Tryd.func42, Tryd.ntmps42
    go_wp2
    go_loopw [0, 7] (fun ev kv wr => ∃ (f : Nat) (e k : Int), ev = .int .i64 e ∧ kv = .int .i64 k ∧ biasGo f e k = T ∧ 0 ≤ e ∧ e < 2 ^ f ∧ e ≤ 1099511627776 ∧ 0 ≤ k ∧ k + 36 * f ≤ 2304 ∧ wr = w) (fun ev _ _ => (intOf ev).toNat)
    case atStart => exact ⟨64, _, 0, rfl, rfl, HT.out.symm, by omega, by omega, by omega, by omega, by omega, rfl⟩
    case round =>
      obtain ⟨f, e, k, rfl, rfl, hg, he0, hef, hel, hk0, hkf, rfl⟩ := hrel
      by_cases hlt : 455 < e
      · cases f with
        | zero => simp at hef; omega
        | succ f =>
          have hg2 : biasGo f (e / 35) (k + 36) = T := by
            unfold biasGo at hg
            rw [if_pos hlt] at hg
            exact hg
          rw [Int.pow_succ] at hef
          have HG := Lib.hid hg2; clear hg2 hg
          have hef2 : e / 35 < 2 ^ f := by omega
          have HEF := Lib.hid hef2; clear hef2 hef
          have h35 : Int.tdiv e 35 = e / 35 := tdiv_pos he0
          go_wp2
          go_roundw
          case rel => exact ⟨f, e / 35, k + 36, by simp, by simp, HG.out, by omega, HEF.out, by omega, by omega, by omega, trivial⟩
          case measure => simp [intOf]; omega
      · rw [biasGo_end f (by omega)] at hg
        have hq : 0 ≤ 36 * e / (e + 38) ∧ 36 * e / (e + 38) ≤ 36 * e := ⟨Int.ediv_nonneg (by omega) (by omega), Int.ediv_le_self _ (by omega)⟩
        have ht : Int.tdiv (36 * e) (e + 38) = 36 * e / (e + 38) := tdiv_pos (by omega)
        clear hef
        go_wp2
        go_ret
        exact ⟨ret1_int (by first | exact hg | rfl), rfl⟩
set_option maxHeartbeats 1000000 in
theorem adapt_any (d n : Int) (first : Bool) (w : World) (hd : 0 ≤ d ∧ d ≤ 1099511627776) (hn : 1 ≤ n ∧ n ≤ 1000) :
    Calls Tryd.prog 71 #[.int .i64 d, .int .i64 n, .bool first] w fun e w' => e = .returned (.int .i64 (nb d n first)) ∧ w = w' := by
  obtain ⟨T, hT⟩ : ∃ T, T = nb d n first := ⟨_, rfl⟩
  rw [← hT]
  obtain ⟨e, he⟩ : ∃ e, e = if first then d / 700 else d / 2 := ⟨_, rfl⟩
  have hT2 : T = biasGo 64 (e + e / n) 0 := by rw [hT, he]; rfl
  clear hT
  have he2 : 0 ≤ e ∧ e ≤ 549755813888 := by rw [he]; split <;> omega
  have hq : 0 ≤ e / n ∧ e / n ≤ e := ⟨Int.ediv_nonneg he2.1 (by omega), Int.ediv_le_self _ he2.1⟩
  have hen : Int.tdiv e n = e / n := tdiv_pos he2.1
  have HT := Lib.hid hT2; clear hT2
  cases first
  all_goals
    simp only [Bool.false_eq_true, if_false, if_true] at he
    have hd1 : Int.tdiv d 700 = d / 700 := tdiv_pos hd.1
    have hd2 : Int.tdiv d 2 = d / 2 := tdiv_pos hd.1
    subst he
    go_enter Tryd.func71, Tryd.ntmps71
    go_wp2
    go_loopw [7, 8] (fun ev kv wr => ∃ (f : Nat) (e k : Int), ev = .int .i64 e ∧ kv = .int .i64 k ∧ biasGo f e k = T ∧ 0 ≤ e ∧ e < 2 ^ f ∧ e ≤ 1099511627776 ∧ 0 ≤ k ∧ k + 36 * f ≤ 2304 ∧ wr = w) (fun ev _ _ => (intOf ev).toNat)
    case atStart => exact ⟨64, _, 0, rfl, rfl, HT.out.symm, by omega, by omega, by omega, by omega, by omega, rfl⟩
    case round =>
      obtain ⟨f, e, k, rfl, rfl, hg, he0, hef, hel, hk0, hkf, rfl⟩ := hrel
      by_cases hlt : 455 < e
      · cases f with
        | zero => simp at hef; omega
        | succ f =>
          have hg2 : biasGo f (e / 35) (k + 36) = T := by
            unfold biasGo at hg
            rw [if_pos hlt] at hg
            exact hg
          rw [Int.pow_succ] at hef
          have HG := Lib.hid hg2; clear hg2 hg
          have hef2 : e / 35 < 2 ^ f := by omega
          have HEF := Lib.hid hef2; clear hef2 hef
          have h35 : Int.tdiv e 35 = e / 35 := tdiv_pos he0
          go_wp2
          go_roundw
          case rel => exact ⟨f, e / 35, k + 36, by simp, by simp, HG.out, by omega, HEF.out, by omega, by omega, by omega, trivial⟩
          case measure => simp [intOf]; omega
      · rw [biasGo_end f (by omega)] at hg
        have hq : 0 ≤ 36 * e / (e + 38) ∧ 36 * e / (e + 38) ≤ 36 * e := ⟨Int.ediv_nonneg (by omega) (by omega), Int.ediv_le_self _ (by omega)⟩
        have ht : Int.tdiv (36 * e) (e + 38) = 36 * e / (e + 38) := tdiv_pos (by omega)
        clear hef
        go_wp2
        go_ret
        exact ⟨ret1_int (by first | exact hg | rfl), rfl⟩
end Go.Proofs.YtledmlgebfbhaaaDoor
