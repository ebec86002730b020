/- Package idna and its reference: how a sign stands (gone, valid, Map). Written by genIdnC.py. -/
import Derived.Test.YtledmlgebfbhaaaDoorIdnB
import Derived.Test.YtledmlgebfbhaaaDoorGlu
import Derived.Test.YtledmlgebfbhaaaDoorArr
namespace Go.Proofs.YtledmlgebfbhaaaDoor
open Go.RowKit
set_option maxRecDepth 10000

def gnF (c : Int) : Bool := decide (c = 173 ∨ c = 8203 ∨ c = 8288 ∨ c = 65279)
def vlP (c : Int) : Prop := (0 ≤ c ∧ c ≤ 127) ∨ (223 ≤ c ∧ c ≤ 246) ∨ (248 ≤ c ∧ c ≤ 255) ∨ (257 ≤ c ∧ c ≤ 303) ∨ (768 ≤ c ∧ c ≤ 879) ∨ (945 ≤ c ∧ c ≤ 969) ∨ (1072 ≤ c ∧ c ≤ 1119) ∨ (12353 ≤ c ∧ c ≤ 12438) ∨ (12449 ≤ c ∧ c ≤ 12538) ∨ (19968 ≤ c ∧ c ≤ 40959) ∨ (44032 ≤ c ∧ c ≤ 55203) ∨ (127744 ≤ c ∧ c ≤ 128511)
def vlGo (c : Int) : List (Int × Int) → Bool
  | [] => false
  | r :: rs => if r.1 ≤ c ∧ c ≤ r.2 then true else vlGo c rs
def rngs : List (Int × Int) := [(0, 127), (223, 246), (248, 255), (257, 303), (768, 879), (945, 969), (1072, 1119), (12353, 12438), (12449, 12538), (19968, 40959), (44032, 55203), (127744, 128511)]
def vlF (c : Int) : Bool := vlGo c rngs
theorem vlGo_iff (c : Int) : ∀ rs : List (Int × Int), vlGo c rs = true ↔ ∃ r ∈ rs, r.1 ≤ c ∧ c ≤ r.2
  | [] => by simp [vlGo]
  | r :: rs => by
    unfold vlGo
    by_cases h : r.1 ≤ c ∧ c ≤ r.2
    · rw [if_pos h]; simp [h]
    · rw [if_neg h, vlGo_iff c rs]; simp [h]
theorem vl_iff (c : Int) : vlF c = true ↔ vlP c := by
  unfold vlF vlP
  rw [vlGo_iff]
  simp [rngs]
/-- what is put down for c, and how it stands -/
def mapF (c : Int) : Bytes × Int := if toF c ≠ [] then (joinF (toF c), 2) else if gnF c = true then ([], 3) else if vlF c = true then (enc c, 1) else ([], 0)
theorem gn_cases (c : Int) : ((c = 173 ∧ gnF c = true) ∨ (c = 8203 ∧ gnF c = true) ∨ (c = 8288 ∧ gnF c = true) ∨ (c = 65279 ∧ gnF c = true)) ∨ (¬ (c = 173 ∨ c = 8203 ∨ c = 8288 ∨ c = 65279) ∧ gnF c = false) := by
  by_cases h : c = 173 ∨ c = 8203 ∨ c = 8288 ∨ c = 65279
  · left; unfold gnF; rcases h with rfl | rfl | rfl | rfl <;> simp
  · right; exact ⟨h, decide_eq_false h⟩
set_option maxHeartbeats 2000000 in
theorem gone_any (c : Int) (w : World) : Calls Tryd.prog 22 #[.int .i64 c] w fun e w' => e = .returned (.bool (gnF c)) ∧ w = w' := by
  rcases gn_cases c with (⟨rfl, e⟩ | ⟨rfl, e⟩ | ⟨rfl, e⟩ | ⟨rfl, e⟩) | ⟨h, e⟩
  · rw [e]
    clear e
    go_enter Tryd.func22, Tryd.ntmps22
    go_wp2_with fail
    go_ret
    exact ⟨rfl, rfl⟩
  · rw [e]
    clear e
    go_enter Tryd.func22, Tryd.ntmps22
    go_wp2_with fail
    go_ret
    exact ⟨rfl, rfl⟩
  · rw [e]
    clear e
    go_enter Tryd.func22, Tryd.ntmps22
    go_wp2_with fail
    go_ret
    exact ⟨rfl, rfl⟩
  · rw [e]
    clear e
    go_enter Tryd.func22, Tryd.ntmps22
    go_wp2_with fail
    go_ret
    exact ⟨rfl, rfl⟩
  · rw [e]
    clear e
    have q0 : (c == 173) = false := by simp; omega
    have q1 : (c == 8203) = false := by simp; omega
    have q2 : (c == 8288) = false := by simp; omega
    have q3 : (c == 65279) = false := by simp; omega
    go_enter Tryd.func22, Tryd.ntmps22
    go_wp2_with fail
    go_ret
    exact ⟨rfl, rfl⟩
theorem bld61 (w : World) : (Instr.build 61 #[(0, .agg #[.int .i64 0, .int .i64 127]), (1, .agg #[.int .i64 223, .int .i64 246]), (2, .agg #[.int .i64 248, .int .i64 255]), (3, .agg #[.int .i64 257, .int .i64 303]), (4, .agg #[.int .i64 768, .int .i64 879]), (5, .agg #[.int .i64 945, .int .i64 969]), (6, .agg #[.int .i64 1072, .int .i64 1119]), (7, .agg #[.int .i64 12353, .int .i64 12438]), (8, .agg #[.int .i64 12449, .int .i64 12538]), (9, .agg #[.int .i64 19968, .int .i64 40959]), (10, .agg #[.int .i64 44032, .int .i64 55203]), (11, .agg #[.int .i64 127744, .int .i64 128511])]).run Tryd.prog w = .ok (.agg #[.int .i64 0, .int .i64 127, .int .i64 223, .int .i64 246, .int .i64 248, .int .i64 255, .int .i64 257, .int .i64 303, .int .i64 768, .int .i64 879, .int .i64 945, .int .i64 969, .int .i64 1072, .int .i64 1119, .int .i64 12353, .int .i64 12438, .int .i64 12449, .int .i64 12538, .int .i64 19968, .int .i64 40959, .int .i64 44032, .int .i64 55203, .int .i64 127744, .int .i64 128511]) w := by kernel_rfl
theorem all61 (w : World) : (Instr.alloc 61 true (Value.tuple #[])).run Tryd.prog w = .ok (.pointer (some ⟨w.heap.size, 0, none⟩)) (w.alloc (.cells #[.int .i64 0, .int .i64 0, .int .i64 0, .int .i64 0, .int .i64 0, .int .i64 0, .int .i64 0, .int .i64 0, .int .i64 0, .int .i64 0, .int .i64 0, .int .i64 0, .int .i64 0, .int .i64 0, .int .i64 0, .int .i64 0, .int .i64 0, .int .i64 0, .int .i64 0, .int .i64 0, .int .i64 0, .int .i64 0, .int .i64 0, .int .i64 0] 61)) := by kernel_rfl
theorem inf61 : (Tryd.prog.info? 61).map (·.size) = some 24 := by kernel_rfl
theorem one61 : (#[.int .i64 0, .int .i64 127, .int .i64 223, .int .i64 246, .int .i64 248, .int .i64 255, .int .i64 257, .int .i64 303, .int .i64 768, .int .i64 879, .int .i64 945, .int .i64 969, .int .i64 1072, .int .i64 1119, .int .i64 12353, .int .i64 12438, .int .i64 12449, .int .i64 12538, .int .i64 19968, .int .i64 40959, .int .i64 44032, .int .i64 55203, .int .i64 127744, .int .i64 128511] : Array Value).all (·.oneCell') = true := by kernel_rfl
theorem idx61_0 (w : World) : (Instr.index 61 (.agg #[.int .i64 0, .int .i64 127, .int .i64 223, .int .i64 246, .int .i64 248, .int .i64 255, .int .i64 257, .int .i64 303, .int .i64 768, .int .i64 879, .int .i64 945, .int .i64 969, .int .i64 1072, .int .i64 1119, .int .i64 12353, .int .i64 12438, .int .i64 12449, .int .i64 12538, .int .i64 19968, .int .i64 40959, .int .i64 44032, .int .i64 55203, .int .i64 127744, .int .i64 128511]) (.int .i64 ((0 : Nat) : Int))).run Tryd.prog w = .ok (.agg #[.int .i64 0, .int .i64 127]) w := by kernel_rfl
theorem idx61_1 (w : World) : (Instr.index 61 (.agg #[.int .i64 0, .int .i64 127, .int .i64 223, .int .i64 246, .int .i64 248, .int .i64 255, .int .i64 257, .int .i64 303, .int .i64 768, .int .i64 879, .int .i64 945, .int .i64 969, .int .i64 1072, .int .i64 1119, .int .i64 12353, .int .i64 12438, .int .i64 12449, .int .i64 12538, .int .i64 19968, .int .i64 40959, .int .i64 44032, .int .i64 55203, .int .i64 127744, .int .i64 128511]) (.int .i64 ((1 : Nat) : Int))).run Tryd.prog w = .ok (.agg #[.int .i64 223, .int .i64 246]) w := by kernel_rfl
theorem idx61_2 (w : World) : (Instr.index 61 (.agg #[.int .i64 0, .int .i64 127, .int .i64 223, .int .i64 246, .int .i64 248, .int .i64 255, .int .i64 257, .int .i64 303, .int .i64 768, .int .i64 879, .int .i64 945, .int .i64 969, .int .i64 1072, .int .i64 1119, .int .i64 12353, .int .i64 12438, .int .i64 12449, .int .i64 12538, .int .i64 19968, .int .i64 40959, .int .i64 44032, .int .i64 55203, .int .i64 127744, .int .i64 128511]) (.int .i64 ((2 : Nat) : Int))).run Tryd.prog w = .ok (.agg #[.int .i64 248, .int .i64 255]) w := by kernel_rfl
theorem idx61_3 (w : World) : (Instr.index 61 (.agg #[.int .i64 0, .int .i64 127, .int .i64 223, .int .i64 246, .int .i64 248, .int .i64 255, .int .i64 257, .int .i64 303, .int .i64 768, .int .i64 879, .int .i64 945, .int .i64 969, .int .i64 1072, .int .i64 1119, .int .i64 12353, .int .i64 12438, .int .i64 12449, .int .i64 12538, .int .i64 19968, .int .i64 40959, .int .i64 44032, .int .i64 55203, .int .i64 127744, .int .i64 128511]) (.int .i64 ((3 : Nat) : Int))).run Tryd.prog w = .ok (.agg #[.int .i64 257, .int .i64 303]) w := by kernel_rfl
theorem idx61_4 (w : World) : (Instr.index 61 (.agg #[.int .i64 0, .int .i64 127, .int .i64 223, .int .i64 246, .int .i64 248, .int .i64 255, .int .i64 257, .int .i64 303, .int .i64 768, .int .i64 879, .int .i64 945, .int .i64 969, .int .i64 1072, .int .i64 1119, .int .i64 12353, .int .i64 12438, .int .i64 12449, .int .i64 12538, .int .i64 19968, .int .i64 40959, .int .i64 44032, .int .i64 55203, .int .i64 127744, .int .i64 128511]) (.int .i64 ((4 : Nat) : Int))).run Tryd.prog w = .ok (.agg #[.int .i64 768, .int .i64 879]) w := by kernel_rfl
theorem idx61_5 (w : World) : (Instr.index 61 (.agg #[.int .i64 0, .int .i64 127, .int .i64 223, .int .i64 246, .int .i64 248, .int .i64 255, .int .i64 257, .int .i64 303, .int .i64 768, .int .i64 879, .int .i64 945, .int .i64 969, .int .i64 1072, .int .i64 1119, .int .i64 12353, .int .i64 12438, .int .i64 12449, .int .i64 12538, .int .i64 19968, .int .i64 40959, .int .i64 44032, .int .i64 55203, .int .i64 127744, .int .i64 128511]) (.int .i64 ((5 : Nat) : Int))).run Tryd.prog w = .ok (.agg #[.int .i64 945, .int .i64 969]) w := by kernel_rfl
theorem idx61_6 (w : World) : (Instr.index 61 (.agg #[.int .i64 0, .int .i64 127, .int .i64 223, .int .i64 246, .int .i64 248, .int .i64 255, .int .i64 257, .int .i64 303, .int .i64 768, .int .i64 879, .int .i64 945, .int .i64 969, .int .i64 1072, .int .i64 1119, .int .i64 12353, .int .i64 12438, .int .i64 12449, .int .i64 12538, .int .i64 19968, .int .i64 40959, .int .i64 44032, .int .i64 55203, .int .i64 127744, .int .i64 128511]) (.int .i64 ((6 : Nat) : Int))).run Tryd.prog w = .ok (.agg #[.int .i64 1072, .int .i64 1119]) w := by kernel_rfl
theorem idx61_7 (w : World) : (Instr.index 61 (.agg #[.int .i64 0, .int .i64 127, .int .i64 223, .int .i64 246, .int .i64 248, .int .i64 255, .int .i64 257, .int .i64 303, .int .i64 768, .int .i64 879, .int .i64 945, .int .i64 969, .int .i64 1072, .int .i64 1119, .int .i64 12353, .int .i64 12438, .int .i64 12449, .int .i64 12538, .int .i64 19968, .int .i64 40959, .int .i64 44032, .int .i64 55203, .int .i64 127744, .int .i64 128511]) (.int .i64 ((7 : Nat) : Int))).run Tryd.prog w = .ok (.agg #[.int .i64 12353, .int .i64 12438]) w := by kernel_rfl
theorem idx61_8 (w : World) : (Instr.index 61 (.agg #[.int .i64 0, .int .i64 127, .int .i64 223, .int .i64 246, .int .i64 248, .int .i64 255, .int .i64 257, .int .i64 303, .int .i64 768, .int .i64 879, .int .i64 945, .int .i64 969, .int .i64 1072, .int .i64 1119, .int .i64 12353, .int .i64 12438, .int .i64 12449, .int .i64 12538, .int .i64 19968, .int .i64 40959, .int .i64 44032, .int .i64 55203, .int .i64 127744, .int .i64 128511]) (.int .i64 ((8 : Nat) : Int))).run Tryd.prog w = .ok (.agg #[.int .i64 12449, .int .i64 12538]) w := by kernel_rfl
theorem idx61_9 (w : World) : (Instr.index 61 (.agg #[.int .i64 0, .int .i64 127, .int .i64 223, .int .i64 246, .int .i64 248, .int .i64 255, .int .i64 257, .int .i64 303, .int .i64 768, .int .i64 879, .int .i64 945, .int .i64 969, .int .i64 1072, .int .i64 1119, .int .i64 12353, .int .i64 12438, .int .i64 12449, .int .i64 12538, .int .i64 19968, .int .i64 40959, .int .i64 44032, .int .i64 55203, .int .i64 127744, .int .i64 128511]) (.int .i64 ((9 : Nat) : Int))).run Tryd.prog w = .ok (.agg #[.int .i64 19968, .int .i64 40959]) w := by kernel_rfl
theorem idx61_10 (w : World) : (Instr.index 61 (.agg #[.int .i64 0, .int .i64 127, .int .i64 223, .int .i64 246, .int .i64 248, .int .i64 255, .int .i64 257, .int .i64 303, .int .i64 768, .int .i64 879, .int .i64 945, .int .i64 969, .int .i64 1072, .int .i64 1119, .int .i64 12353, .int .i64 12438, .int .i64 12449, .int .i64 12538, .int .i64 19968, .int .i64 40959, .int .i64 44032, .int .i64 55203, .int .i64 127744, .int .i64 128511]) (.int .i64 ((10 : Nat) : Int))).run Tryd.prog w = .ok (.agg #[.int .i64 44032, .int .i64 55203]) w := by kernel_rfl
theorem idx61_11 (w : World) : (Instr.index 61 (.agg #[.int .i64 0, .int .i64 127, .int .i64 223, .int .i64 246, .int .i64 248, .int .i64 255, .int .i64 257, .int .i64 303, .int .i64 768, .int .i64 879, .int .i64 945, .int .i64 969, .int .i64 1072, .int .i64 1119, .int .i64 12353, .int .i64 12438, .int .i64 12449, .int .i64 12538, .int .i64 19968, .int .i64 40959, .int .i64 44032, .int .i64 55203, .int .i64 127744, .int .i64 128511]) (.int .i64 ((11 : Nat) : Int))).run Tryd.prog w = .ok (.agg #[.int .i64 127744, .int .i64 128511]) w := by kernel_rfl
theorem vlGo_t {c : Int} {r : Int × Int} {rs : List (Int × Int)} (h : r.1 ≤ c ∧ c ≤ r.2) : vlGo c (r :: rs) = true := by unfold vlGo; rw [if_pos h]
theorem vlGo_f {c : Int} {r : Int × Int} {rs : List (Int × Int)} (h : ¬ (r.1 ≤ c ∧ c ≤ r.2)) : vlGo c (r :: rs) = vlGo c rs := by rw [vlGo, if_neg h]
set_option maxHeartbeats 8000000 in
theorem valid_any (c : Int) (w : World) : Calls Tryd.prog 23 #[.int .i64 c] w fun e w' => e = .returned (.bool (vlF c)) ∧ Below w.heap.size w w' := by
  obtain ⟨T, hT⟩ : ∃ T, T = vlF c := ⟨_, rfl⟩
  rw [← hT]
  have HT := Lib.hid hT; clear hT
  go_enter Tryd.func23, Tryd.ntmps23
  go_wp2_with (first
    | (refine build_to rfl 61 _ rfl (.agg #[.int .i64 0, .int .i64 127, .int .i64 223, .int .i64 246, .int .i64 248, .int .i64 255, .int .i64 257, .int .i64 303, .int .i64 768, .int .i64 879, .int .i64 945, .int .i64 969, .int .i64 1072, .int .i64 1119, .int .i64 12353, .int .i64 12438, .int .i64 12449, .int .i64 12538, .int .i64 19968, .int .i64 40959, .int .i64 44032, .int .i64 55203, .int .i64 127744, .int .i64 128511]) _ (by rfl) bld61 ?_)
    | (refine alloc_to rfl 61 rfl _ _ (all61 _) ?_)
    | (refine store_new rfl 61 _ _ rfl #[.int .i64 0, .int .i64 127, .int .i64 223, .int .i64 246, .int .i64 248, .int .i64 255, .int .i64 257, .int .i64 303, .int .i64 768, .int .i64 879, .int .i64 945, .int .i64 969, .int .i64 1072, .int .i64 1119, .int .i64 12353, .int .i64 12438, .int .i64 12449, .int .i64 12538, .int .i64 19968, .int .i64 40959, .int .i64 44032, .int .i64 55203, .int .i64 127744, .int .i64 128511] _ _ rfl rfl inf61 rfl one61 ?_)
    | (refine load_new rfl 61 _ rfl #[.int .i64 0, .int .i64 127, .int .i64 223, .int .i64 246, .int .i64 248, .int .i64 255, .int .i64 257, .int .i64 303, .int .i64 768, .int .i64 879, .int .i64 945, .int .i64 969, .int .i64 1072, .int .i64 1119, .int .i64 12353, .int .i64 12438, .int .i64 12449, .int .i64 12538, .int .i64 19968, .int .i64 40959, .int .i64 44032, .int .i64 55203, .int .i64 127744, .int .i64 128511] _ rfl _ Tryd.underlying61 rfl inf61 ?_)
    | fail)
  go_loopw [20] (fun iv wr => ∃ k : Nat, k ≤ 12 ∧ iv = .int .i64 k ∧ T = vlGo c (rngs.drop k) ∧ Below w.heap.size w wr) (fun i _ => 12 - (intOf i).toNat)
  case atStart => exact ⟨0, by omega, by simp, HT.out, (Below.refl _ _).alloc (Nat.le_refl _) _⟩
  case round =>
    obtain ⟨k, hk, rfl, hno, hbl⟩ := hrel
    have HB := Lib.hid hbl; clear hbl
    have HN := Lib.hid hno; clear hno
    have hks : k = 0 ∨ k = 1 ∨ k = 2 ∨ k = 3 ∨ k = 4 ∨ k = 5 ∨ k = 6 ∨ k = 7 ∨ k = 8 ∨ k = 9 ∨ k = 10 ∨ k = 11 ∨ k = 12 := by omega
    rcases hks with rfl | rfl | rfl | rfl | rfl | rfl | rfl | rfl | rfl | rfl | rfl | rfl | rfl
    · have hn : T = vlGo c ((0, 127) :: rngs.drop 1) := HN.out
      by_cases h : 0 ≤ c ∧ c ≤ 127
      · rw [vlGo_t (r := (0, 127)) h] at hn
        subst hn
        go_wp2_with (first | (refine index_to rfl 61 _ _ rfl _ _ _ rfl rfl idx61_0 ?_) | (go_at_call 35; first | (refine (in_t _ _ _ _ (by omega)).mono ?_; rintro e w2 ⟨rfl, rfl⟩) | (refine (in_f _ _ _ _ (by omega)).mono ?_; rintro e w2 ⟨rfl, rfl⟩)) | fail)
        go_ret
        exact ⟨rfl, by first | assumption | exact HB.out.alloc HB.out.size _⟩
      · rw [vlGo_f (r := (0, 127)) h] at hn
        have HN2 := Lib.hid hn; clear hn
        go_wp2_with (first | (refine index_to rfl 61 _ _ rfl _ _ _ rfl rfl idx61_0 ?_) | (go_at_call 35; first | (refine (in_t _ _ _ _ (by omega)).mono ?_; rintro e w2 ⟨rfl, rfl⟩) | (refine (in_f _ _ _ _ (by omega)).mono ?_; rintro e w2 ⟨rfl, rfl⟩)) | fail)
        go_roundw
        case rel => exact ⟨1, by omega, by simp, HN2.out, by first | assumption | exact HB.out.alloc HB.out.size _⟩
        case measure => simp [intOf]
    · have hn : T = vlGo c ((223, 246) :: rngs.drop 2) := HN.out
      by_cases h : 223 ≤ c ∧ c ≤ 246
      · rw [vlGo_t (r := (223, 246)) h] at hn
        subst hn
        go_wp2_with (first | (refine index_to rfl 61 _ _ rfl _ _ _ rfl rfl idx61_1 ?_) | (go_at_call 35; first | (refine (in_t _ _ _ _ (by omega)).mono ?_; rintro e w2 ⟨rfl, rfl⟩) | (refine (in_f _ _ _ _ (by omega)).mono ?_; rintro e w2 ⟨rfl, rfl⟩)) | fail)
        go_ret
        exact ⟨rfl, by first | assumption | exact HB.out.alloc HB.out.size _⟩
      · rw [vlGo_f (r := (223, 246)) h] at hn
        have HN2 := Lib.hid hn; clear hn
        go_wp2_with (first | (refine index_to rfl 61 _ _ rfl _ _ _ rfl rfl idx61_1 ?_) | (go_at_call 35; first | (refine (in_t _ _ _ _ (by omega)).mono ?_; rintro e w2 ⟨rfl, rfl⟩) | (refine (in_f _ _ _ _ (by omega)).mono ?_; rintro e w2 ⟨rfl, rfl⟩)) | fail)
        go_roundw
        case rel => exact ⟨2, by omega, by simp, HN2.out, by first | assumption | exact HB.out.alloc HB.out.size _⟩
        case measure => simp [intOf]
    · have hn : T = vlGo c ((248, 255) :: rngs.drop 3) := HN.out
      by_cases h : 248 ≤ c ∧ c ≤ 255
      · rw [vlGo_t (r := (248, 255)) h] at hn
        subst hn
        go_wp2_with (first | (refine index_to rfl 61 _ _ rfl _ _ _ rfl rfl idx61_2 ?_) | (go_at_call 35; first | (refine (in_t _ _ _ _ (by omega)).mono ?_; rintro e w2 ⟨rfl, rfl⟩) | (refine (in_f _ _ _ _ (by omega)).mono ?_; rintro e w2 ⟨rfl, rfl⟩)) | fail)
        go_ret
        exact ⟨rfl, by first | assumption | exact HB.out.alloc HB.out.size _⟩
      · rw [vlGo_f (r := (248, 255)) h] at hn
        have HN2 := Lib.hid hn; clear hn
        go_wp2_with (first | (refine index_to rfl 61 _ _ rfl _ _ _ rfl rfl idx61_2 ?_) | (go_at_call 35; first | (refine (in_t _ _ _ _ (by omega)).mono ?_; rintro e w2 ⟨rfl, rfl⟩) | (refine (in_f _ _ _ _ (by omega)).mono ?_; rintro e w2 ⟨rfl, rfl⟩)) | fail)
        go_roundw
        case rel => exact ⟨3, by omega, by simp, HN2.out, by first | assumption | exact HB.out.alloc HB.out.size _⟩
        case measure => simp [intOf]
    · have hn : T = vlGo c ((257, 303) :: rngs.drop 4) := HN.out
      by_cases h : 257 ≤ c ∧ c ≤ 303
      · rw [vlGo_t (r := (257, 303)) h] at hn
        subst hn
        go_wp2_with (first | (refine index_to rfl 61 _ _ rfl _ _ _ rfl rfl idx61_3 ?_) | (go_at_call 35; first | (refine (in_t _ _ _ _ (by omega)).mono ?_; rintro e w2 ⟨rfl, rfl⟩) | (refine (in_f _ _ _ _ (by omega)).mono ?_; rintro e w2 ⟨rfl, rfl⟩)) | fail)
        go_ret
        exact ⟨rfl, by first | assumption | exact HB.out.alloc HB.out.size _⟩
      · rw [vlGo_f (r := (257, 303)) h] at hn
        have HN2 := Lib.hid hn; clear hn
        go_wp2_with (first | (refine index_to rfl 61 _ _ rfl _ _ _ rfl rfl idx61_3 ?_) | (go_at_call 35; first | (refine (in_t _ _ _ _ (by omega)).mono ?_; rintro e w2 ⟨rfl, rfl⟩) | (refine (in_f _ _ _ _ (by omega)).mono ?_; rintro e w2 ⟨rfl, rfl⟩)) | fail)
        go_roundw
        case rel => exact ⟨4, by omega, by simp, HN2.out, by first | assumption | exact HB.out.alloc HB.out.size _⟩
        case measure => simp [intOf]
    · have hn : T = vlGo c ((768, 879) :: rngs.drop 5) := HN.out
      by_cases h : 768 ≤ c ∧ c ≤ 879
      · rw [vlGo_t (r := (768, 879)) h] at hn
        subst hn
        go_wp2_with (first | (refine index_to rfl 61 _ _ rfl _ _ _ rfl rfl idx61_4 ?_) | (go_at_call 35; first | (refine (in_t _ _ _ _ (by omega)).mono ?_; rintro e w2 ⟨rfl, rfl⟩) | (refine (in_f _ _ _ _ (by omega)).mono ?_; rintro e w2 ⟨rfl, rfl⟩)) | fail)
        go_ret
        exact ⟨rfl, by first | assumption | exact HB.out.alloc HB.out.size _⟩
      · rw [vlGo_f (r := (768, 879)) h] at hn
        have HN2 := Lib.hid hn; clear hn
        go_wp2_with (first | (refine index_to rfl 61 _ _ rfl _ _ _ rfl rfl idx61_4 ?_) | (go_at_call 35; first | (refine (in_t _ _ _ _ (by omega)).mono ?_; rintro e w2 ⟨rfl, rfl⟩) | (refine (in_f _ _ _ _ (by omega)).mono ?_; rintro e w2 ⟨rfl, rfl⟩)) | fail)
        go_roundw
        case rel => exact ⟨5, by omega, by simp, HN2.out, by first | assumption | exact HB.out.alloc HB.out.size _⟩
        case measure => simp [intOf]
    · have hn : T = vlGo c ((945, 969) :: rngs.drop 6) := HN.out
      by_cases h : 945 ≤ c ∧ c ≤ 969
      · rw [vlGo_t (r := (945, 969)) h] at hn
        subst hn
        go_wp2_with (first | (refine index_to rfl 61 _ _ rfl _ _ _ rfl rfl idx61_5 ?_) | (go_at_call 35; first | (refine (in_t _ _ _ _ (by omega)).mono ?_; rintro e w2 ⟨rfl, rfl⟩) | (refine (in_f _ _ _ _ (by omega)).mono ?_; rintro e w2 ⟨rfl, rfl⟩)) | fail)
        go_ret
        exact ⟨rfl, by first | assumption | exact HB.out.alloc HB.out.size _⟩
      · rw [vlGo_f (r := (945, 969)) h] at hn
        have HN2 := Lib.hid hn; clear hn
        go_wp2_with (first | (refine index_to rfl 61 _ _ rfl _ _ _ rfl rfl idx61_5 ?_) | (go_at_call 35; first | (refine (in_t _ _ _ _ (by omega)).mono ?_; rintro e w2 ⟨rfl, rfl⟩) | (refine (in_f _ _ _ _ (by omega)).mono ?_; rintro e w2 ⟨rfl, rfl⟩)) | fail)
        go_roundw
        case rel => exact ⟨6, by omega, by simp, HN2.out, by first | assumption | exact HB.out.alloc HB.out.size _⟩
        case measure => simp [intOf]
    · have hn : T = vlGo c ((1072, 1119) :: rngs.drop 7) := HN.out
      by_cases h : 1072 ≤ c ∧ c ≤ 1119
      · rw [vlGo_t (r := (1072, 1119)) h] at hn
        subst hn
        go_wp2_with (first | (refine index_to rfl 61 _ _ rfl _ _ _ rfl rfl idx61_6 ?_) | (go_at_call 35; first | (refine (in_t _ _ _ _ (by omega)).mono ?_; rintro e w2 ⟨rfl, rfl⟩) | (refine (in_f _ _ _ _ (by omega)).mono ?_; rintro e w2 ⟨rfl, rfl⟩)) | fail)
        go_ret
        exact ⟨rfl, by first | assumption | exact HB.out.alloc HB.out.size _⟩
      · rw [vlGo_f (r := (1072, 1119)) h] at hn
        have HN2 := Lib.hid hn; clear hn
        go_wp2_with (first | (refine index_to rfl 61 _ _ rfl _ _ _ rfl rfl idx61_6 ?_) | (go_at_call 35; first | (refine (in_t _ _ _ _ (by omega)).mono ?_; rintro e w2 ⟨rfl, rfl⟩) | (refine (in_f _ _ _ _ (by omega)).mono ?_; rintro e w2 ⟨rfl, rfl⟩)) | fail)
        go_roundw
        case rel => exact ⟨7, by omega, by simp, HN2.out, by first | assumption | exact HB.out.alloc HB.out.size _⟩
        case measure => simp [intOf]
    · have hn : T = vlGo c ((12353, 12438) :: rngs.drop 8) := HN.out
      by_cases h : 12353 ≤ c ∧ c ≤ 12438
      · rw [vlGo_t (r := (12353, 12438)) h] at hn
        subst hn
        go_wp2_with (first | (refine index_to rfl 61 _ _ rfl _ _ _ rfl rfl idx61_7 ?_) | (go_at_call 35; first | (refine (in_t _ _ _ _ (by omega)).mono ?_; rintro e w2 ⟨rfl, rfl⟩) | (refine (in_f _ _ _ _ (by omega)).mono ?_; rintro e w2 ⟨rfl, rfl⟩)) | fail)
        go_ret
        exact ⟨rfl, by first | assumption | exact HB.out.alloc HB.out.size _⟩
      · rw [vlGo_f (r := (12353, 12438)) h] at hn
        have HN2 := Lib.hid hn; clear hn
        go_wp2_with (first | (refine index_to rfl 61 _ _ rfl _ _ _ rfl rfl idx61_7 ?_) | (go_at_call 35; first | (refine (in_t _ _ _ _ (by omega)).mono ?_; rintro e w2 ⟨rfl, rfl⟩) | (refine (in_f _ _ _ _ (by omega)).mono ?_; rintro e w2 ⟨rfl, rfl⟩)) | fail)
        go_roundw
        case rel => exact ⟨8, by omega, by simp, HN2.out, by first | assumption | exact HB.out.alloc HB.out.size _⟩
        case measure => simp [intOf]
    · have hn : T = vlGo c ((12449, 12538) :: rngs.drop 9) := HN.out
      by_cases h : 12449 ≤ c ∧ c ≤ 12538
      · rw [vlGo_t (r := (12449, 12538)) h] at hn
        subst hn
        go_wp2_with (first | (refine index_to rfl 61 _ _ rfl _ _ _ rfl rfl idx61_8 ?_) | (go_at_call 35; first | (refine (in_t _ _ _ _ (by omega)).mono ?_; rintro e w2 ⟨rfl, rfl⟩) | (refine (in_f _ _ _ _ (by omega)).mono ?_; rintro e w2 ⟨rfl, rfl⟩)) | fail)
        go_ret
        exact ⟨rfl, by first | assumption | exact HB.out.alloc HB.out.size _⟩
      · rw [vlGo_f (r := (12449, 12538)) h] at hn
        have HN2 := Lib.hid hn; clear hn
        go_wp2_with (first | (refine index_to rfl 61 _ _ rfl _ _ _ rfl rfl idx61_8 ?_) | (go_at_call 35; first | (refine (in_t _ _ _ _ (by omega)).mono ?_; rintro e w2 ⟨rfl, rfl⟩) | (refine (in_f _ _ _ _ (by omega)).mono ?_; rintro e w2 ⟨rfl, rfl⟩)) | fail)
        go_roundw
        case rel => exact ⟨9, by omega, by simp, HN2.out, by first | assumption | exact HB.out.alloc HB.out.size _⟩
        case measure => simp [intOf]
    · have hn : T = vlGo c ((19968, 40959) :: rngs.drop 10) := HN.out
      by_cases h : 19968 ≤ c ∧ c ≤ 40959
      · rw [vlGo_t (r := (19968, 40959)) h] at hn
        subst hn
        go_wp2_with (first | (refine index_to rfl 61 _ _ rfl _ _ _ rfl rfl idx61_9 ?_) | (go_at_call 35; first | (refine (in_t _ _ _ _ (by omega)).mono ?_; rintro e w2 ⟨rfl, rfl⟩) | (refine (in_f _ _ _ _ (by omega)).mono ?_; rintro e w2 ⟨rfl, rfl⟩)) | fail)
        go_ret
        exact ⟨rfl, by first | assumption | exact HB.out.alloc HB.out.size _⟩
      · rw [vlGo_f (r := (19968, 40959)) h] at hn
        have HN2 := Lib.hid hn; clear hn
        go_wp2_with (first | (refine index_to rfl 61 _ _ rfl _ _ _ rfl rfl idx61_9 ?_) | (go_at_call 35; first | (refine (in_t _ _ _ _ (by omega)).mono ?_; rintro e w2 ⟨rfl, rfl⟩) | (refine (in_f _ _ _ _ (by omega)).mono ?_; rintro e w2 ⟨rfl, rfl⟩)) | fail)
        go_roundw
        case rel => exact ⟨10, by omega, by simp, HN2.out, by first | assumption | exact HB.out.alloc HB.out.size _⟩
        case measure => simp [intOf]
    · have hn : T = vlGo c ((44032, 55203) :: rngs.drop 11) := HN.out
      by_cases h : 44032 ≤ c ∧ c ≤ 55203
      · rw [vlGo_t (r := (44032, 55203)) h] at hn
        subst hn
        go_wp2_with (first | (refine index_to rfl 61 _ _ rfl _ _ _ rfl rfl idx61_10 ?_) | (go_at_call 35; first | (refine (in_t _ _ _ _ (by omega)).mono ?_; rintro e w2 ⟨rfl, rfl⟩) | (refine (in_f _ _ _ _ (by omega)).mono ?_; rintro e w2 ⟨rfl, rfl⟩)) | fail)
        go_ret
        exact ⟨rfl, by first | assumption | exact HB.out.alloc HB.out.size _⟩
      · rw [vlGo_f (r := (44032, 55203)) h] at hn
        have HN2 := Lib.hid hn; clear hn
        go_wp2_with (first | (refine index_to rfl 61 _ _ rfl _ _ _ rfl rfl idx61_10 ?_) | (go_at_call 35; first | (refine (in_t _ _ _ _ (by omega)).mono ?_; rintro e w2 ⟨rfl, rfl⟩) | (refine (in_f _ _ _ _ (by omega)).mono ?_; rintro e w2 ⟨rfl, rfl⟩)) | fail)
        go_roundw
        case rel => exact ⟨11, by omega, by simp, HN2.out, by first | assumption | exact HB.out.alloc HB.out.size _⟩
        case measure => simp [intOf]
    · have hn : T = vlGo c ((127744, 128511) :: rngs.drop 12) := HN.out
      by_cases h : 127744 ≤ c ∧ c ≤ 128511
      · rw [vlGo_t (r := (127744, 128511)) h] at hn
        subst hn
        go_wp2_with (first | (refine index_to rfl 61 _ _ rfl _ _ _ rfl rfl idx61_11 ?_) | (go_at_call 35; first | (refine (in_t _ _ _ _ (by omega)).mono ?_; rintro e w2 ⟨rfl, rfl⟩) | (refine (in_f _ _ _ _ (by omega)).mono ?_; rintro e w2 ⟨rfl, rfl⟩)) | fail)
        go_ret
        exact ⟨rfl, by first | assumption | exact HB.out.alloc HB.out.size _⟩
      · rw [vlGo_f (r := (127744, 128511)) h] at hn
        have HN2 := Lib.hid hn; clear hn
        go_wp2_with (first | (refine index_to rfl 61 _ _ rfl _ _ _ rfl rfl idx61_11 ?_) | (go_at_call 35; first | (refine (in_t _ _ _ _ (by omega)).mono ?_; rintro e w2 ⟨rfl, rfl⟩) | (refine (in_f _ _ _ _ (by omega)).mono ?_; rintro e w2 ⟨rfl, rfl⟩)) | fail)
        go_roundw
        case rel => exact ⟨12, by omega, by simp, HN2.out, by first | assumption | exact HB.out.alloc HB.out.size _⟩
        case measure => simp [intOf]
    · have hf : T = false := HN.out
      subst hf
      go_wp2_with fail
      go_ret
      exact ⟨rfl, HB.out⟩
end Go.Proofs.YtledmlgebfbhaaaDoor
