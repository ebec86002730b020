/- IdnC IdnD IdnE IdnF: joined. -/
import Derived.Test.YtpckaimpjccjhaaGreatDoorGIdnB
import Derived.Test.YtpckaimpjccjhaaGreatDoorGGlu
import Derived.Test.YtpckaimpjccjhaaGreatDoorGArr
set_option maxHeartbeats 40000000
namespace Go.Proofs.YtpckaimpjccjhaaGreatDoor
open Go.RowKit
set_option maxRecDepth 10000
def gnF (c : Int) : Bool := decide (c = 173 ∨ c = 8203 ∨ c = 8288 ∨ c = 65279)
def vlGo (c : Int) : List (Int × Int) -> Bool
 | [] => false
 | r :: rs => if r.1 <= c ∧ c <= r.2 then true else vlGo c rs
def rngs : List (Int × Int) := [(0, 127), (223, 246), (248, 255), (257, 303), (768, 879), (945, 969), (1072, 1119), (12353, 12438), (12449, 12538), (19968, 40959), (44032, 55203), (127744, 128511)]
def vlF (c : Int) : Bool := vlGo c rngs
def mapF (c : Int) : Bytes × Int := if toF c ≠ [] then (joinF (toF c), 2) else if gnF c = true then ([], 3) else if vlF c = true then (enc c, 1) else ([], 0)
theorem gn_cases (c : Int) : ((c = 173 ∧ gnF c = true) ∨ (c = 8203 ∧ gnF c = true) ∨ (c = 8288 ∧ gnF c = true) ∨ (c = 65279 ∧ gnF c = true)) ∨ (¬ (c = 173 ∨ c = 8203 ∨ c = 8288 ∨ c = 65279) ∧ gnF c = false) := by
 by_cases h : c = 173 ∨ c = 8203 ∨ c = 8288 ∨ c = 65279
 ·left; unfold gnF; rcases h with rfl | rfl | rfl | rfl <;> simp
 ·right; exact ⟨h, decide_eq_false h⟩
theorem gone_any (c : Int) (w : World) : Calls Tryz.prog 228 #[.int .i64 c] w fun e w' => e = .returned (.bool (gnF c)) ∧ w = w' := by
 rcases gn_cases c with (⟨rfl, e⟩ | ⟨rfl, e⟩ | ⟨rfl, e⟩ | ⟨rfl, e⟩) | ⟨h, e⟩
 iterate 4
  ·rw [e]
   clear e
   go_enter Tryz.func228, Tryz.ntmps228
   go_wp2_with fail
   go_ret
   exact ⟨rfl, rfl⟩
 ·rw [e]
  clear e
  have q0 : (c == 173) = false := by simp; omega
  have q1 : (c == 8203) = false := by simp; omega
  have q2 : (c == 8288) = false := by simp; omega
  have q3 : (c == 65279) = false := by simp; omega
  go_enter Tryz.func228, Tryz.ntmps228
  go_wp2_with fail
  go_ret
  exact ⟨rfl, rfl⟩
theorem bld61 (w : World) : (Instr.build 223 #[(0, .agg #[.int .i64 0, .int .i64 127]), (1, .agg #[.int .i64 223, .int .i64 246]), (2, .agg #[.int .i64 248, .int .i64 255]), (3, .agg #[.int .i64 257, .int .i64 303]), (4, .agg #[.int .i64 768, .int .i64 879]), (5, .agg #[.int .i64 945, .int .i64 969]), (6, .agg #[.int .i64 1072, .int .i64 1119]), (7, .agg #[.int .i64 12353, .int .i64 12438]), (8, .agg #[.int .i64 12449, .int .i64 12538]), (9, .agg #[.int .i64 19968, .int .i64 40959]), (10, .agg #[.int .i64 44032, .int .i64 55203]), (11, .agg #[.int .i64 127744, .int .i64 128511])]).run Tryz.prog w = .ok (.agg #[.int .i64 0, .int .i64 127, .int .i64 223, .int .i64 246, .int .i64 248, .int .i64 255, .int .i64 257, .int .i64 303, .int .i64 768, .int .i64 879, .int .i64 945, .int .i64 969, .int .i64 1072, .int .i64 1119, .int .i64 12353, .int .i64 12438, .int .i64 12449, .int .i64 12538, .int .i64 19968, .int .i64 40959, .int .i64 44032, .int .i64 55203, .int .i64 127744, .int .i64 128511]) w := by kernel_rfl
theorem all61 (w : World) : (Instr.alloc 223 true (Value.tuple #[])).run Tryz.prog w = .ok (.pointer (some ⟨w.heap.size, 0, none⟩)) (w.alloc (.cells #[.int .i64 0, .int .i64 0, .int .i64 0, .int .i64 0, .int .i64 0, .int .i64 0, .int .i64 0, .int .i64 0, .int .i64 0, .int .i64 0, .int .i64 0, .int .i64 0, .int .i64 0, .int .i64 0, .int .i64 0, .int .i64 0, .int .i64 0, .int .i64 0, .int .i64 0, .int .i64 0, .int .i64 0, .int .i64 0, .int .i64 0, .int .i64 0] 223)) := by kernel_rfl
theorem inf61 : (Tryz.prog.info? 223).map (·.size) = some 24 := by kernel_rfl
theorem one61 : (#[.int .i64 0, .int .i64 127, .int .i64 223, .int .i64 246, .int .i64 248, .int .i64 255, .int .i64 257, .int .i64 303, .int .i64 768, .int .i64 879, .int .i64 945, .int .i64 969, .int .i64 1072, .int .i64 1119, .int .i64 12353, .int .i64 12438, .int .i64 12449, .int .i64 12538, .int .i64 19968, .int .i64 40959, .int .i64 44032, .int .i64 55203, .int .i64 127744, .int .i64 128511] : Array Value).all (·.oneCell') = true := by kernel_rfl
theorem idx61_0 (w : World) : (Instr.index 223 (.agg #[.int .i64 0, .int .i64 127, .int .i64 223, .int .i64 246, .int .i64 248, .int .i64 255, .int .i64 257, .int .i64 303, .int .i64 768, .int .i64 879, .int .i64 945, .int .i64 969, .int .i64 1072, .int .i64 1119, .int .i64 12353, .int .i64 12438, .int .i64 12449, .int .i64 12538, .int .i64 19968, .int .i64 40959, .int .i64 44032, .int .i64 55203, .int .i64 127744, .int .i64 128511]) (.int .i64 ((0 : Nat) : Int))).run Tryz.prog w = .ok (.agg #[.int .i64 0, .int .i64 127]) w := by kernel_rfl
theorem idx61_1 (w : World) : (Instr.index 223 (.agg #[.int .i64 0, .int .i64 127, .int .i64 223, .int .i64 246, .int .i64 248, .int .i64 255, .int .i64 257, .int .i64 303, .int .i64 768, .int .i64 879, .int .i64 945, .int .i64 969, .int .i64 1072, .int .i64 1119, .int .i64 12353, .int .i64 12438, .int .i64 12449, .int .i64 12538, .int .i64 19968, .int .i64 40959, .int .i64 44032, .int .i64 55203, .int .i64 127744, .int .i64 128511]) (.int .i64 ((1 : Nat) : Int))).run Tryz.prog w = .ok (.agg #[.int .i64 223, .int .i64 246]) w := by kernel_rfl
theorem idx61_2 (w : World) : (Instr.index 223 (.agg #[.int .i64 0, .int .i64 127, .int .i64 223, .int .i64 246, .int .i64 248, .int .i64 255, .int .i64 257, .int .i64 303, .int .i64 768, .int .i64 879, .int .i64 945, .int .i64 969, .int .i64 1072, .int .i64 1119, .int .i64 12353, .int .i64 12438, .int .i64 12449, .int .i64 12538, .int .i64 19968, .int .i64 40959, .int .i64 44032, .int .i64 55203, .int .i64 127744, .int .i64 128511]) (.int .i64 ((2 : Nat) : Int))).run Tryz.prog w = .ok (.agg #[.int .i64 248, .int .i64 255]) w := by kernel_rfl
theorem idx61_3 (w : World) : (Instr.index 223 (.agg #[.int .i64 0, .int .i64 127, .int .i64 223, .int .i64 246, .int .i64 248, .int .i64 255, .int .i64 257, .int .i64 303, .int .i64 768, .int .i64 879, .int .i64 945, .int .i64 969, .int .i64 1072, .int .i64 1119, .int .i64 12353, .int .i64 12438, .int .i64 12449, .int .i64 12538, .int .i64 19968, .int .i64 40959, .int .i64 44032, .int .i64 55203, .int .i64 127744, .int .i64 128511]) (.int .i64 ((3 : Nat) : Int))).run Tryz.prog w = .ok (.agg #[.int .i64 257, .int .i64 303]) w := by kernel_rfl
theorem idx61_4 (w : World) : (Instr.index 223 (.agg #[.int .i64 0, .int .i64 127, .int .i64 223, .int .i64 246, .int .i64 248, .int .i64 255, .int .i64 257, .int .i64 303, .int .i64 768, .int .i64 879, .int .i64 945, .int .i64 969, .int .i64 1072, .int .i64 1119, .int .i64 12353, .int .i64 12438, .int .i64 12449, .int .i64 12538, .int .i64 19968, .int .i64 40959, .int .i64 44032, .int .i64 55203, .int .i64 127744, .int .i64 128511]) (.int .i64 ((4 : Nat) : Int))).run Tryz.prog w = .ok (.agg #[.int .i64 768, .int .i64 879]) w := by kernel_rfl
theorem idx61_5 (w : World) : (Instr.index 223 (.agg #[.int .i64 0, .int .i64 127, .int .i64 223, .int .i64 246, .int .i64 248, .int .i64 255, .int .i64 257, .int .i64 303, .int .i64 768, .int .i64 879, .int .i64 945, .int .i64 969, .int .i64 1072, .int .i64 1119, .int .i64 12353, .int .i64 12438, .int .i64 12449, .int .i64 12538, .int .i64 19968, .int .i64 40959, .int .i64 44032, .int .i64 55203, .int .i64 127744, .int .i64 128511]) (.int .i64 ((5 : Nat) : Int))).run Tryz.prog w = .ok (.agg #[.int .i64 945, .int .i64 969]) w := by kernel_rfl
theorem idx61_6 (w : World) : (Instr.index 223 (.agg #[.int .i64 0, .int .i64 127, .int .i64 223, .int .i64 246, .int .i64 248, .int .i64 255, .int .i64 257, .int .i64 303, .int .i64 768, .int .i64 879, .int .i64 945, .int .i64 969, .int .i64 1072, .int .i64 1119, .int .i64 12353, .int .i64 12438, .int .i64 12449, .int .i64 12538, .int .i64 19968, .int .i64 40959, .int .i64 44032, .int .i64 55203, .int .i64 127744, .int .i64 128511]) (.int .i64 ((6 : Nat) : Int))).run Tryz.prog w = .ok (.agg #[.int .i64 1072, .int .i64 1119]) w := by kernel_rfl
theorem idx61_7 (w : World) : (Instr.index 223 (.agg #[.int .i64 0, .int .i64 127, .int .i64 223, .int .i64 246, .int .i64 248, .int .i64 255, .int .i64 257, .int .i64 303, .int .i64 768, .int .i64 879, .int .i64 945, .int .i64 969, .int .i64 1072, .int .i64 1119, .int .i64 12353, .int .i64 12438, .int .i64 12449, .int .i64 12538, .int .i64 19968, .int .i64 40959, .int .i64 44032, .int .i64 55203, .int .i64 127744, .int .i64 128511]) (.int .i64 ((7 : Nat) : Int))).run Tryz.prog w = .ok (.agg #[.int .i64 12353, .int .i64 12438]) w := by kernel_rfl
theorem idx61_8 (w : World) : (Instr.index 223 (.agg #[.int .i64 0, .int .i64 127, .int .i64 223, .int .i64 246, .int .i64 248, .int .i64 255, .int .i64 257, .int .i64 303, .int .i64 768, .int .i64 879, .int .i64 945, .int .i64 969, .int .i64 1072, .int .i64 1119, .int .i64 12353, .int .i64 12438, .int .i64 12449, .int .i64 12538, .int .i64 19968, .int .i64 40959, .int .i64 44032, .int .i64 55203, .int .i64 127744, .int .i64 128511]) (.int .i64 ((8 : Nat) : Int))).run Tryz.prog w = .ok (.agg #[.int .i64 12449, .int .i64 12538]) w := by kernel_rfl
theorem idx61_9 (w : World) : (Instr.index 223 (.agg #[.int .i64 0, .int .i64 127, .int .i64 223, .int .i64 246, .int .i64 248, .int .i64 255, .int .i64 257, .int .i64 303, .int .i64 768, .int .i64 879, .int .i64 945, .int .i64 969, .int .i64 1072, .int .i64 1119, .int .i64 12353, .int .i64 12438, .int .i64 12449, .int .i64 12538, .int .i64 19968, .int .i64 40959, .int .i64 44032, .int .i64 55203, .int .i64 127744, .int .i64 128511]) (.int .i64 ((9 : Nat) : Int))).run Tryz.prog w = .ok (.agg #[.int .i64 19968, .int .i64 40959]) w := by kernel_rfl
theorem idx61_10 (w : World) : (Instr.index 223 (.agg #[.int .i64 0, .int .i64 127, .int .i64 223, .int .i64 246, .int .i64 248, .int .i64 255, .int .i64 257, .int .i64 303, .int .i64 768, .int .i64 879, .int .i64 945, .int .i64 969, .int .i64 1072, .int .i64 1119, .int .i64 12353, .int .i64 12438, .int .i64 12449, .int .i64 12538, .int .i64 19968, .int .i64 40959, .int .i64 44032, .int .i64 55203, .int .i64 127744, .int .i64 128511]) (.int .i64 ((10 : Nat) : Int))).run Tryz.prog w = .ok (.agg #[.int .i64 44032, .int .i64 55203]) w := by kernel_rfl
theorem idx61_11 (w : World) : (Instr.index 223 (.agg #[.int .i64 0, .int .i64 127, .int .i64 223, .int .i64 246, .int .i64 248, .int .i64 255, .int .i64 257, .int .i64 303, .int .i64 768, .int .i64 879, .int .i64 945, .int .i64 969, .int .i64 1072, .int .i64 1119, .int .i64 12353, .int .i64 12438, .int .i64 12449, .int .i64 12538, .int .i64 19968, .int .i64 40959, .int .i64 44032, .int .i64 55203, .int .i64 127744, .int .i64 128511]) (.int .i64 ((11 : Nat) : Int))).run Tryz.prog w = .ok (.agg #[.int .i64 127744, .int .i64 128511]) w := by kernel_rfl
theorem vlGo_t {c : Int} {r : Int × Int} {rs : List (Int × Int)} (h : r.1 <= c ∧ c <= r.2) : vlGo c (r :: rs) = true := by unfold vlGo; rw [if_pos h]
theorem vlGo_f {c : Int} {r : Int × Int} {rs : List (Int × Int)} (h : ¬ (r.1 <= c ∧ c <= r.2)) : vlGo c (r :: rs) = vlGo c rs := by rw [vlGo, if_neg h]
theorem valid_any (c : Int) (w : World) : Calls Tryz.prog 229 #[.int .i64 c] w fun e w' => e = .returned (.bool (vlF c)) ∧ Below w.heap.size w w' := by
 obtain ⟨T, hT⟩ := ex_ (vlF c)
 rw [<- hT]
 have HT := h_ hT; clear hT
 go_enter Tryz.func229, Tryz.ntmps229
 go_wp2_with (first
  | (refine build_to rfl 223 _ rfl (.agg #[.int .i64 0, .int .i64 127, .int .i64 223, .int .i64 246, .int .i64 248, .int .i64 255, .int .i64 257, .int .i64 303, .int .i64 768, .int .i64 879, .int .i64 945, .int .i64 969, .int .i64 1072, .int .i64 1119, .int .i64 12353, .int .i64 12438, .int .i64 12449, .int .i64 12538, .int .i64 19968, .int .i64 40959, .int .i64 44032, .int .i64 55203, .int .i64 127744, .int .i64 128511]) _ (by rfl) bld61 ?_)
  | (refine alloc_to rfl 223 rfl _ _ (all61 _) ?_)
  | (refine store_new rfl 223 _ _ rfl #[.int .i64 0, .int .i64 127, .int .i64 223, .int .i64 246, .int .i64 248, .int .i64 255, .int .i64 257, .int .i64 303, .int .i64 768, .int .i64 879, .int .i64 945, .int .i64 969, .int .i64 1072, .int .i64 1119, .int .i64 12353, .int .i64 12438, .int .i64 12449, .int .i64 12538, .int .i64 19968, .int .i64 40959, .int .i64 44032, .int .i64 55203, .int .i64 127744, .int .i64 128511] _ _ rfl rfl inf61 rfl one61 ?_)
  | (refine load_new rfl 223 _ rfl #[.int .i64 0, .int .i64 127, .int .i64 223, .int .i64 246, .int .i64 248, .int .i64 255, .int .i64 257, .int .i64 303, .int .i64 768, .int .i64 879, .int .i64 945, .int .i64 969, .int .i64 1072, .int .i64 1119, .int .i64 12353, .int .i64 12438, .int .i64 12449, .int .i64 12538, .int .i64 19968, .int .i64 40959, .int .i64 44032, .int .i64 55203, .int .i64 127744, .int .i64 128511] _ rfl _ Tryz.underlying223 rfl inf61 ?_)
  | fail)
 go_loopw [20] (fun iv wr => ∃ k : Nat, k <= 12 ∧ iv = .int .i64 k ∧ T = vlGo c (rngs.drop k) ∧ Below w.heap.size w wr) (fun i _ => 12 - (intOf i).toNat)
 case atStart => exact ⟨0, by omega, by simp, HT.out, (Below.refl _ _).alloc (Nat.le_refl _) _⟩
 case round =>
  obtain ⟨k, hk, rfl, hno, hbl⟩ := hrel
  have HB := h_ hbl; clear hbl
  have HN := h_ hno; clear hno
  have hks : k = 0 ∨ k = 1 ∨ k = 2 ∨ k = 3 ∨ k = 4 ∨ k = 5 ∨ k = 6 ∨ k = 7 ∨ k = 8 ∨ k = 9 ∨ k = 10 ∨ k = 11 ∨ k = 12 := by omega
  rcases hks with rfl | rfl | rfl | rfl | rfl | rfl | rfl | rfl | rfl | rfl | rfl | rfl | rfl
  ·have hn : T = vlGo c ((0, 127) :: rngs.drop 1) := HN.out
   by_cases h : 0 <= c ∧ c <= 127
   ·rw [vlGo_t (r := (0, 127)) h] at hn
    subst hn
    go_wp2_with (first | (refine index_to rfl 223 _ _ rfl _ _ _ rfl rfl idx61_0 ?_) | (go_at_call 237; first | (refine (in_t _ _ _ _ (by omega)).mono ?_; rintro e w2 ⟨rfl, rfl⟩) | (refine (in_f _ _ _ _ (by omega)).mono ?_; rintro e w2 ⟨rfl, rfl⟩)) | fail)
    go_ret
    exact ⟨rfl, by first | assumption | exact HB.out.alloc HB.out.size _⟩
   ·rw [vlGo_f (r := (0, 127)) h] at hn
    have HN2 := h_ hn; clear hn
    go_wp2_with (first | (refine index_to rfl 223 _ _ rfl _ _ _ rfl rfl idx61_0 ?_) | (go_at_call 237; first | (refine (in_t _ _ _ _ (by omega)).mono ?_; rintro e w2 ⟨rfl, rfl⟩) | (refine (in_f _ _ _ _ (by omega)).mono ?_; rintro e w2 ⟨rfl, rfl⟩)) | fail)
    go_roundw
    case rel => exact ⟨1, by omega, by simp, HN2.out, by first | assumption | exact HB.out.alloc HB.out.size _⟩
    case measure => simp [intOf]
  ·have hn : T = vlGo c ((223, 246) :: rngs.drop 2) := HN.out
   by_cases h : 223 <= c ∧ c <= 246
   ·rw [vlGo_t (r := (223, 246)) h] at hn
    subst hn
    go_wp2_with (first | (refine index_to rfl 223 _ _ rfl _ _ _ rfl rfl idx61_1 ?_) | (go_at_call 237; first | (refine (in_t _ _ _ _ (by omega)).mono ?_; rintro e w2 ⟨rfl, rfl⟩) | (refine (in_f _ _ _ _ (by omega)).mono ?_; rintro e w2 ⟨rfl, rfl⟩)) | fail)
    go_ret
    exact ⟨rfl, by first | assumption | exact HB.out.alloc HB.out.size _⟩
   ·rw [vlGo_f (r := (223, 246)) h] at hn
    have HN2 := h_ hn; clear hn
    go_wp2_with (first | (refine index_to rfl 223 _ _ rfl _ _ _ rfl rfl idx61_1 ?_) | (go_at_call 237; first | (refine (in_t _ _ _ _ (by omega)).mono ?_; rintro e w2 ⟨rfl, rfl⟩) | (refine (in_f _ _ _ _ (by omega)).mono ?_; rintro e w2 ⟨rfl, rfl⟩)) | fail)
    go_roundw
    case rel => exact ⟨2, by omega, by simp, HN2.out, by first | assumption | exact HB.out.alloc HB.out.size _⟩
    case measure => simp [intOf]
  ·have hn : T = vlGo c ((248, 255) :: rngs.drop 3) := HN.out
   by_cases h : 248 <= c ∧ c <= 255
   ·rw [vlGo_t (r := (248, 255)) h] at hn
    subst hn
    go_wp2_with (first | (refine index_to rfl 223 _ _ rfl _ _ _ rfl rfl idx61_2 ?_) | (go_at_call 237; first | (refine (in_t _ _ _ _ (by omega)).mono ?_; rintro e w2 ⟨rfl, rfl⟩) | (refine (in_f _ _ _ _ (by omega)).mono ?_; rintro e w2 ⟨rfl, rfl⟩)) | fail)
    go_ret
    exact ⟨rfl, by first | assumption | exact HB.out.alloc HB.out.size _⟩
   ·rw [vlGo_f (r := (248, 255)) h] at hn
    have HN2 := h_ hn; clear hn
    go_wp2_with (first | (refine index_to rfl 223 _ _ rfl _ _ _ rfl rfl idx61_2 ?_) | (go_at_call 237; first | (refine (in_t _ _ _ _ (by omega)).mono ?_; rintro e w2 ⟨rfl, rfl⟩) | (refine (in_f _ _ _ _ (by omega)).mono ?_; rintro e w2 ⟨rfl, rfl⟩)) | fail)
    go_roundw
    case rel => exact ⟨3, by omega, by simp, HN2.out, by first | assumption | exact HB.out.alloc HB.out.size _⟩
    case measure => simp [intOf]
  ·have hn : T = vlGo c ((257, 303) :: rngs.drop 4) := HN.out
   by_cases h : 257 <= c ∧ c <= 303
   ·rw [vlGo_t (r := (257, 303)) h] at hn
    subst hn
    go_wp2_with (first | (refine index_to rfl 223 _ _ rfl _ _ _ rfl rfl idx61_3 ?_) | (go_at_call 237; first | (refine (in_t _ _ _ _ (by omega)).mono ?_; rintro e w2 ⟨rfl, rfl⟩) | (refine (in_f _ _ _ _ (by omega)).mono ?_; rintro e w2 ⟨rfl, rfl⟩)) | fail)
    go_ret
    exact ⟨rfl, by first | assumption | exact HB.out.alloc HB.out.size _⟩
   ·rw [vlGo_f (r := (257, 303)) h] at hn
    have HN2 := h_ hn; clear hn
    go_wp2_with (first | (refine index_to rfl 223 _ _ rfl _ _ _ rfl rfl idx61_3 ?_) | (go_at_call 237; first | (refine (in_t _ _ _ _ (by omega)).mono ?_; rintro e w2 ⟨rfl, rfl⟩) | (refine (in_f _ _ _ _ (by omega)).mono ?_; rintro e w2 ⟨rfl, rfl⟩)) | fail)
    go_roundw
    case rel => exact ⟨4, by omega, by simp, HN2.out, by first | assumption | exact HB.out.alloc HB.out.size _⟩
    case measure => simp [intOf]
  ·have hn : T = vlGo c ((768, 879) :: rngs.drop 5) := HN.out
   by_cases h : 768 <= c ∧ c <= 879
   ·rw [vlGo_t (r := (768, 879)) h] at hn
    subst hn
    go_wp2_with (first | (refine index_to rfl 223 _ _ rfl _ _ _ rfl rfl idx61_4 ?_) | (go_at_call 237; first | (refine (in_t _ _ _ _ (by omega)).mono ?_; rintro e w2 ⟨rfl, rfl⟩) | (refine (in_f _ _ _ _ (by omega)).mono ?_; rintro e w2 ⟨rfl, rfl⟩)) | fail)
    go_ret
    exact ⟨rfl, by first | assumption | exact HB.out.alloc HB.out.size _⟩
   ·rw [vlGo_f (r := (768, 879)) h] at hn
    have HN2 := h_ hn; clear hn
    go_wp2_with (first | (refine index_to rfl 223 _ _ rfl _ _ _ rfl rfl idx61_4 ?_) | (go_at_call 237; first | (refine (in_t _ _ _ _ (by omega)).mono ?_; rintro e w2 ⟨rfl, rfl⟩) | (refine (in_f _ _ _ _ (by omega)).mono ?_; rintro e w2 ⟨rfl, rfl⟩)) | fail)
    go_roundw
    case rel => exact ⟨5, by omega, by simp, HN2.out, by first | assumption | exact HB.out.alloc HB.out.size _⟩
    case measure => simp [intOf]
  ·have hn : T = vlGo c ((945, 969) :: rngs.drop 6) := HN.out
   by_cases h : 945 <= c ∧ c <= 969
   ·rw [vlGo_t (r := (945, 969)) h] at hn
    subst hn
    go_wp2_with (first | (refine index_to rfl 223 _ _ rfl _ _ _ rfl rfl idx61_5 ?_) | (go_at_call 237; first | (refine (in_t _ _ _ _ (by omega)).mono ?_; rintro e w2 ⟨rfl, rfl⟩) | (refine (in_f _ _ _ _ (by omega)).mono ?_; rintro e w2 ⟨rfl, rfl⟩)) | fail)
    go_ret
    exact ⟨rfl, by first | assumption | exact HB.out.alloc HB.out.size _⟩
   ·rw [vlGo_f (r := (945, 969)) h] at hn
    have HN2 := h_ hn; clear hn
    go_wp2_with (first | (refine index_to rfl 223 _ _ rfl _ _ _ rfl rfl idx61_5 ?_) | (go_at_call 237; first | (refine (in_t _ _ _ _ (by omega)).mono ?_; rintro e w2 ⟨rfl, rfl⟩) | (refine (in_f _ _ _ _ (by omega)).mono ?_; rintro e w2 ⟨rfl, rfl⟩)) | fail)
    go_roundw
    case rel => exact ⟨6, by omega, by simp, HN2.out, by first | assumption | exact HB.out.alloc HB.out.size _⟩
    case measure => simp [intOf]
  ·have hn : T = vlGo c ((1072, 1119) :: rngs.drop 7) := HN.out
   by_cases h : 1072 <= c ∧ c <= 1119
   ·rw [vlGo_t (r := (1072, 1119)) h] at hn
    subst hn
    go_wp2_with (first | (refine index_to rfl 223 _ _ rfl _ _ _ rfl rfl idx61_6 ?_) | (go_at_call 237; first | (refine (in_t _ _ _ _ (by omega)).mono ?_; rintro e w2 ⟨rfl, rfl⟩) | (refine (in_f _ _ _ _ (by omega)).mono ?_; rintro e w2 ⟨rfl, rfl⟩)) | fail)
    go_ret
    exact ⟨rfl, by first | assumption | exact HB.out.alloc HB.out.size _⟩
   ·rw [vlGo_f (r := (1072, 1119)) h] at hn
    have HN2 := h_ hn; clear hn
    go_wp2_with (first | (refine index_to rfl 223 _ _ rfl _ _ _ rfl rfl idx61_6 ?_) | (go_at_call 237; first | (refine (in_t _ _ _ _ (by omega)).mono ?_; rintro e w2 ⟨rfl, rfl⟩) | (refine (in_f _ _ _ _ (by omega)).mono ?_; rintro e w2 ⟨rfl, rfl⟩)) | fail)
    go_roundw
    case rel => exact ⟨7, by omega, by simp, HN2.out, by first | assumption | exact HB.out.alloc HB.out.size _⟩
    case measure => simp [intOf]
  ·have hn : T = vlGo c ((12353, 12438) :: rngs.drop 8) := HN.out
   by_cases h : 12353 <= c ∧ c <= 12438
   ·rw [vlGo_t (r := (12353, 12438)) h] at hn
    subst hn
    go_wp2_with (first | (refine index_to rfl 223 _ _ rfl _ _ _ rfl rfl idx61_7 ?_) | (go_at_call 237; first | (refine (in_t _ _ _ _ (by omega)).mono ?_; rintro e w2 ⟨rfl, rfl⟩) | (refine (in_f _ _ _ _ (by omega)).mono ?_; rintro e w2 ⟨rfl, rfl⟩)) | fail)
    go_ret
    exact ⟨rfl, by first | assumption | exact HB.out.alloc HB.out.size _⟩
   ·rw [vlGo_f (r := (12353, 12438)) h] at hn
    have HN2 := h_ hn; clear hn
    go_wp2_with (first | (refine index_to rfl 223 _ _ rfl _ _ _ rfl rfl idx61_7 ?_) | (go_at_call 237; first | (refine (in_t _ _ _ _ (by omega)).mono ?_; rintro e w2 ⟨rfl, rfl⟩) | (refine (in_f _ _ _ _ (by omega)).mono ?_; rintro e w2 ⟨rfl, rfl⟩)) | fail)
    go_roundw
    case rel => exact ⟨8, by omega, by simp, HN2.out, by first | assumption | exact HB.out.alloc HB.out.size _⟩
    case measure => simp [intOf]
  ·have hn : T = vlGo c ((12449, 12538) :: rngs.drop 9) := HN.out
   by_cases h : 12449 <= c ∧ c <= 12538
   ·rw [vlGo_t (r := (12449, 12538)) h] at hn
    subst hn
    go_wp2_with (first | (refine index_to rfl 223 _ _ rfl _ _ _ rfl rfl idx61_8 ?_) | (go_at_call 237; first | (refine (in_t _ _ _ _ (by omega)).mono ?_; rintro e w2 ⟨rfl, rfl⟩) | (refine (in_f _ _ _ _ (by omega)).mono ?_; rintro e w2 ⟨rfl, rfl⟩)) | fail)
    go_ret
    exact ⟨rfl, by first | assumption | exact HB.out.alloc HB.out.size _⟩
   ·rw [vlGo_f (r := (12449, 12538)) h] at hn
    have HN2 := h_ hn; clear hn
    go_wp2_with (first | (refine index_to rfl 223 _ _ rfl _ _ _ rfl rfl idx61_8 ?_) | (go_at_call 237; first | (refine (in_t _ _ _ _ (by omega)).mono ?_; rintro e w2 ⟨rfl, rfl⟩) | (refine (in_f _ _ _ _ (by omega)).mono ?_; rintro e w2 ⟨rfl, rfl⟩)) | fail)
    go_roundw
    case rel => exact ⟨9, by omega, by simp, HN2.out, by first | assumption | exact HB.out.alloc HB.out.size _⟩
    case measure => simp [intOf]
  ·have hn : T = vlGo c ((19968, 40959) :: rngs.drop 10) := HN.out
   by_cases h : 19968 <= c ∧ c <= 40959
   ·rw [vlGo_t (r := (19968, 40959)) h] at hn
    subst hn
    go_wp2_with (first | (refine index_to rfl 223 _ _ rfl _ _ _ rfl rfl idx61_9 ?_) | (go_at_call 237; first | (refine (in_t _ _ _ _ (by omega)).mono ?_; rintro e w2 ⟨rfl, rfl⟩) | (refine (in_f _ _ _ _ (by omega)).mono ?_; rintro e w2 ⟨rfl, rfl⟩)) | fail)
    go_ret
    exact ⟨rfl, by first | assumption | exact HB.out.alloc HB.out.size _⟩
   ·rw [vlGo_f (r := (19968, 40959)) h] at hn
    have HN2 := h_ hn; clear hn
    go_wp2_with (first | (refine index_to rfl 223 _ _ rfl _ _ _ rfl rfl idx61_9 ?_) | (go_at_call 237; first | (refine (in_t _ _ _ _ (by omega)).mono ?_; rintro e w2 ⟨rfl, rfl⟩) | (refine (in_f _ _ _ _ (by omega)).mono ?_; rintro e w2 ⟨rfl, rfl⟩)) | fail)
    go_roundw
    case rel => exact ⟨10, by omega, by simp, HN2.out, by first | assumption | exact HB.out.alloc HB.out.size _⟩
    case measure => simp [intOf]
  ·have hn : T = vlGo c ((44032, 55203) :: rngs.drop 11) := HN.out
   by_cases h : 44032 <= c ∧ c <= 55203
   ·rw [vlGo_t (r := (44032, 55203)) h] at hn
    subst hn
    go_wp2_with (first | (refine index_to rfl 223 _ _ rfl _ _ _ rfl rfl idx61_10 ?_) | (go_at_call 237; first | (refine (in_t _ _ _ _ (by omega)).mono ?_; rintro e w2 ⟨rfl, rfl⟩) | (refine (in_f _ _ _ _ (by omega)).mono ?_; rintro e w2 ⟨rfl, rfl⟩)) | fail)
    go_ret
    exact ⟨rfl, by first | assumption | exact HB.out.alloc HB.out.size _⟩
   ·rw [vlGo_f (r := (44032, 55203)) h] at hn
    have HN2 := h_ hn; clear hn
    go_wp2_with (first | (refine index_to rfl 223 _ _ rfl _ _ _ rfl rfl idx61_10 ?_) | (go_at_call 237; first | (refine (in_t _ _ _ _ (by omega)).mono ?_; rintro e w2 ⟨rfl, rfl⟩) | (refine (in_f _ _ _ _ (by omega)).mono ?_; rintro e w2 ⟨rfl, rfl⟩)) | fail)
    go_roundw
    case rel => exact ⟨11, by omega, by simp, HN2.out, by first | assumption | exact HB.out.alloc HB.out.size _⟩
    case measure => simp [intOf]
  ·have hn : T = vlGo c ((127744, 128511) :: rngs.drop 12) := HN.out
   by_cases h : 127744 <= c ∧ c <= 128511
   ·rw [vlGo_t (r := (127744, 128511)) h] at hn
    subst hn
    go_wp2_with (first | (refine index_to rfl 223 _ _ rfl _ _ _ rfl rfl idx61_11 ?_) | (go_at_call 237; first | (refine (in_t _ _ _ _ (by omega)).mono ?_; rintro e w2 ⟨rfl, rfl⟩) | (refine (in_f _ _ _ _ (by omega)).mono ?_; rintro e w2 ⟨rfl, rfl⟩)) | fail)
    go_ret
    exact ⟨rfl, by first | assumption | exact HB.out.alloc HB.out.size _⟩
   ·rw [vlGo_f (r := (127744, 128511)) h] at hn
    have HN2 := h_ hn; clear hn
    go_wp2_with (first | (refine index_to rfl 223 _ _ rfl _ _ _ rfl rfl idx61_11 ?_) | (go_at_call 237; first | (refine (in_t _ _ _ _ (by omega)).mono ?_; rintro e w2 ⟨rfl, rfl⟩) | (refine (in_f _ _ _ _ (by omega)).mono ?_; rintro e w2 ⟨rfl, rfl⟩)) | fail)
    go_roundw
    case rel => exact ⟨12, by omega, by simp, HN2.out, by first | assumption | exact HB.out.alloc HB.out.size _⟩
    case measure => simp [intOf]
  ·have hf : T = false := HN.out
   subst hf
   go_wp2_with fail
   go_ret
   exact ⟨rfl, HB.out⟩

theorem toF_join {c : Int} : (bs (joinF (toF c))).toList.isEmpty = decide (toF c = []) := by
 rw [toList_bs]
 cases h : toF c with
 | nil => simp [joinF]
 | cons x r =>
  rw [joinF_cons]
  have := (enc_len x).1
  cases he : enc x with
  | nil => rw [he] at this; simp at this
  | cons y s => simp
theorem mapF_to {c : Int} (h : toF c ≠ []) : mapF c = (joinF (toF c), 2) := by unfold mapF; rw [if_pos h]
theorem mapF_gone {c : Int} (h : toF c = []) (h2 : gnF c = true) : mapF c = ([], 3) := by unfold mapF; rw [if_neg (by simp [h]), if_pos h2]
theorem mapF_valid {c : Int} (h : toF c = []) (h2 : gnF c = false) (h3 : vlF c = true) : mapF c = (enc c, 1) := by unfold mapF; rw [if_neg (by simp [h]), if_neg (by simp [h2]), if_pos h3]
theorem mapF_none {c : Int} (h : toF c = []) (h2 : gnF c = false) (h3 : vlF c = false) : mapF c = ([], 0) := by unfold mapF; rw [if_neg (by simp [h]), if_neg (by simp [h2]), if_neg (by simp [h3])]
theorem ret_map {a : Bytes} {k : Int} {t : Bytes × Int} (h : t = (a, k)) : Ending.returned (.tuple #[.string (bs a), .int .i64 k]) = .returned (.tuple #[S t.1, .int .i64 t.2]) := by subst h; rfl
theorem map_cases (c : Int) : (∃ b, toF c ≠ [] ∧ (bs (joinF (toF c))).toList.isEmpty = false ∧ b = joinF (toF c) ∧ mapF c = (b, 2)) ∨ (toF c = [] ∧ gnF c = true ∧ mapF c = ([], 3)) ∨ (toF c = [] ∧ gnF c = false ∧ vlF c = true ∧ mapF c = (enc c, 1)) ∨ (toF c = [] ∧ gnF c = false ∧ vlF c = false ∧ mapF c = ([], 0)) := by
 by_cases h : toF c = []
 ·right
  cases h2 : gnF c
  ·right
   cases h3 : vlF c
   ·exact .inr ⟨h, rfl, rfl, mapF_none h h2 h3⟩
   ·exact .inl ⟨h, rfl, rfl, mapF_valid h h2 h3⟩
  ·exact .inl ⟨h, rfl, mapF_gone h h2⟩
 ·exact .inl ⟨_, h, by rw [toF_join]; simp [h], rfl, mapF_to h⟩
theorem map_any (c : Int) (w : World) : Calls Tryz.prog 218 #[.int .i64 c] w fun e w' => e = .returned (.tuple #[S (mapF c).1, .int .i64 (mapF c).2]) ∧ Below w.heap.size w w' := by
 have ho := fun W => other_any c W
 have hg := fun W => gone_any c W
 have hv := fun W => valid_any c W
 obtain ⟨M, hM⟩ := ex_ (mapF c)
 rw [<- hM]
 rcases map_cases c with ⟨b, h, h2, h3, e⟩ | ⟨h, h2, e⟩ | ⟨h, h2, h3, e⟩ | ⟨h, h2, h3, e⟩
 all_goals rw [<- hM] at e
 ·rw [<- h3] at ho h2
  have HM := h_ e; clear e hM h h3
  have HO := h_ ho; clear ho hg hv
  go_enter Tryz.func218, Tryz.ntmps218
  go_wp2_with (first | (go_at_call 227; refine (HO.out _).mono ?_; rintro e w2 ⟨rfl, rfl⟩) | fail)
  go_ret2
  exact ⟨ret_map HM.out, Below.refl _ _⟩
 ·rw [h] at ho
  rw [h2] at hg
  have hem : (bs (joinF [])).toList.isEmpty = true := by rw [toList_bs]; rfl
  have HM := h_ e; clear e hM h h2
  have HO := h_ ho; clear ho
  have HG := h_ hg; clear hg hv
  go_enter Tryz.func218, Tryz.ntmps218
  go_wp2_with (first | (go_at_call 227; refine (HO.out _).mono ?_; rintro e w2 ⟨rfl, rfl⟩) | (go_at_call 228; refine (HG.out _).mono ?_; rintro e w2 ⟨rfl, rfl⟩) | fail)
  go_ret2
  exact ⟨ret_map (a := []) HM.out, Below.refl _ _⟩
 ·rw [h] at ho
  rw [h2] at hg
  rw [h3] at hv
  have hem : (bs (joinF [])).toList.isEmpty = true := by rw [toList_bs]; rfl
  have HM := h_ e; clear e hM h h2 h3
  have HO := h_ ho; clear ho
  have HG := h_ hg; clear hg
  have HV := h_ hv; clear hv
  go_enter Tryz.func218, Tryz.ntmps218
  go_wp2_with (first | (go_at_call 227; refine (HO.out _).mono ?_; rintro e w2 ⟨rfl, rfl⟩) | (go_at_call 228; refine (HG.out _).mono ?_; rintro e w2 ⟨rfl, rfl⟩) | (go_at_call 229; refine (HV.out _).mono ?_; rintro e w2 ⟨rfl, hb2⟩; have HB2 := h_ hb2; clear hb2) | (go_at_call 71; refine (sign_any _ _).mono ?_; rintro e w3 ⟨rfl, rfl⟩) | fail)
  go_ret2
  exact ⟨ret_map HM.out, HB2.out⟩
 ·rw [h] at ho
  rw [h2] at hg
  rw [h3] at hv
  have hem : (bs (joinF [])).toList.isEmpty = true := by rw [toList_bs]; rfl
  have HM := h_ e; clear e hM h h2 h3
  have HO := h_ ho; clear ho
  have HG := h_ hg; clear hg
  have HV := h_ hv; clear hv
  go_enter Tryz.func218, Tryz.ntmps218
  go_wp2_with (first | (go_at_call 227; refine (HO.out _).mono ?_; rintro e w2 ⟨rfl, rfl⟩) | (go_at_call 228; refine (HG.out _).mono ?_; rintro e w2 ⟨rfl, rfl⟩) | (go_at_call 229; refine (HV.out _).mono ?_; rintro e w2 ⟨rfl, hb2⟩; have HB2 := h_ hb2; clear hb2) | fail)
  go_ret2
  exact ⟨ret_map (a := []) HM.out, HB2.out⟩

theorem toF_len (c : Int) : (toF c).length <= 3 := by
 rcases to_cases c with h | h | h | h | h | h | h | h | h | h | h | h | h <;> (obtain ⟨_, h⟩ := h; first | (rw [h]; simp) | (obtain ⟨_, h⟩ := h; rw [h]; simp))
def okS (c : Int) : Bool := decide ((mapF c).2 = 1 ∧ c ≠ 46)
def farS (c : Int) : Bool := decide (127 < c)
def frs (l : List Int) : Bool := match l with | [] => false | x :: _ => !decide (0x300 <= x ∧ x <= 0x36f)
def labF (l : List Int) : Bool := frs l && l.all okS && l.any farS
theorem lab_bad {l : List Int} {k : Nat} (h : k < l.length) (hb : okS l[k] = false) : labF l = false := by
 have : l.all okS = false := by
  rw [List.all_eq_false]
  exact ⟨_, List.getElem_mem h, by rw [hb]; simp⟩
 unfold labF; rw [this]; simp
theorem lab_end {l : List Int} (h : l.all okS = true) : labF l = (frs l && l.any farS) := by unfold labF; rw [h]; simp
theorem frs_cons {l : List Int} (h : 0 < l.length) : frs l = !decide ((0x300 : Int) <= l[0] ∧ l[0] <= (0x36f : Int)) := by
 cases l with
 | nil => simp at h
 | cons x r => rfl
theorem all_snoc3 {l : List Int} {k : Nat} {f : Int -> Bool} (h : k < l.length) (ha : (l.take k).all f = true) (hb : f l[k] = true) : (l.take (k + 1)).all f = true := by
 rw [List.take_succ_eq_append_getElem h, List.all_append, ha]; simp [hb]
theorem any_snoc3 {l : List Int} {k : Nat} {f : Int -> Bool} (h : k < l.length) : (l.take (k + 1)).any f = ((l.take k).any f || f l[k]) := by
 rw [List.take_succ_eq_append_getElem h, List.any_append]; simp
theorem okS_f1 {c : Int} (h : (mapF c).2 ≠ 1) : okS c = false := decide_eq_false (fun h2 => h h2.1)
theorem okS_f2 : okS 46 = false := decide_eq_false (fun h2 => h2.2 rfl)
theorem okS_t {c : Int} (h : (mapF c).2 = 1) (h2 : c ≠ 46) : okS c = true := decide_eq_true ⟨h, h2⟩
theorem label_any (l : List Int) (v : Value) (w : World) (h : Sl w.heap.size w v (I64s l)) :
  Calls Tryz.prog 233 #[v] w fun e w' => e = .returned (.bool (labF l)) ∧ Below w.heap.size w w' := by
 obtain ⟨av, c, rfl⟩ := slice_val h
 have hLm : l.length <= maxLen := by
  obtain ⟨c1, h1, h2, _⟩ := h
  have h3 : (I64s l).length = l.length := by simp
  omega
 unfold maxLen at hLm
 rw [show (I64s l).length = l.length by simp] at h ⊢
 have hat := slice_at h
 clear h
 have HAT := h_ hat; clear hat
 obtain ⟨T, hT⟩ := ex_ (labF l)
 rw [<- hT]
 have hbad := fun k (hk : k < l.length) (hb : okS l[k] = false) => hT.trans (lab_bad hk hb)
 have hend := fun (h : l.all okS = true) => hT.trans (lab_end h)
 have HBAD := h_ hbad; clear hbad
 have HEND := h_ hend; clear hend
 by_cases h0 : l.length = 0
 ·obtain rfl : l = [] := List.eq_nil_of_length_eq_zero h0
  have hf : T = false := hT
  subst hf
  clear hT HAT HBAD HEND
  simp only [List.length_nil]
  go_enter Tryz.func233, Tryz.ntmps233
  go_wp2_with fail
  go_ret
  exact ⟨rfl, Below.refl _ _⟩
 ·have hp : 0 < l.length := by omega
  obtain ⟨x0, hx0⟩ := ex_ (l[0]'hp)
  have hfr := frs_cons hp
  obtain ⟨b, o, rfl, hb, hc0⟩ := HAT.out 0 hp
  rw [<- hx0] at hfr hc0
  clear hx0
  have hfirst : 0x300 <= x0 ∧ x0 <= 0x36f -> T = false := fun h => by rw [hT]; unfold labF; rw [hfr, decide_eq_true h]; simp
  obtain ⟨L, hL⟩ := ex_ (l.length)
  rw [<- hL] at hLm hp ⊢
  have hL0 : 0 < L := hp
  have HL := h_ hL; clear hL h0 hp
  rw [Nat.add_zero] at hc0
  have HFR := h_ hfr; clear hfr hT
  have HF1 := h_ hfirst; clear hfirst
  have q0 : ((L : Int) == 0) = false := by simp; omega
  by_cases hx0 : 0x300 <= x0 ∧ x0 <= 0x36f
  ·have hf := HF1.out hx0
   subst hf
   go_enter Tryz.func233, Tryz.ntmps233
   go_wp2_with (first | (go_at_call 237; refine (in_t _ _ _ _ hx0).mono ?_; rintro e w2 ⟨rfl, rfl⟩) | fail)
   go_ret
   exact ⟨rfl, Below.refl _ _⟩
  ·have HX0 := h_ hx0; clear hx0
   go_enter Tryz.func233, Tryz.ntmps233
   go_wp2_with (first | (go_at_call 237; refine (in_f _ _ _ _ HX0.out).mono ?_; rintro e w2 ⟨rfl, rfl⟩) | fail)
   go_loopw [3, 19] (fun av iv wr => ∃ k : Nat, k <= L ∧ iv = .int .i64 k ∧ av = .bool ((l.take k).any farS) ∧ (l.take k).all okS = true ∧ Below w.heap.size w wr) (fun _ i _ => L - (intOf i).toNat)
   case atStart => exact ⟨0, by omega, by simp, by simp, by simp, Below.refl _ _⟩
   case round =>
    obtain ⟨k, hk, rfl, rfl, hall, hbl⟩ := hrel
    have HA := h_ hall; clear hall
    have HB := h_ hbl; clear hbl
    by_cases hlt : k < L
    ·have hx : k < l.length := by have := HL.out; omega
     obtain ⟨b', o', hbo, hb', hcell0⟩ := HAT.out k hx
     obtain ⟨rfl, rfl⟩ : b = b' ∧ o = o' := by simpa using hbo
     have hcell : wr.cell? ⟨b, o + k, none⟩ = some (.int .i64 l[k]) := by rw [(HB.out).cell (p := ⟨b, o + k, none⟩) hb, hcell0]
     clear hcell0 hbo hb' hc0
     have hs1 := fun h => all_snoc3 (f := okS) hx HA.out h
     have hs2 := any_snoc3 (f := farS) hx
     have hbd := HBAD.out k hx
     obtain ⟨x, hxx⟩ := ex_ (l[k])
     rw [<- hxx] at hcell hs1 hs2 hbd
     clear hxx
     have hma := fun W => map_any x W
     obtain ⟨K, hK⟩ := ex_ ((mapF x).2)
     obtain ⟨B, hB⟩ := ex_ ((mapF x).1)
     have hk1 := fun h : K ≠ 1 => hbd (okS_f1 (by rw [<- hK]; exact h))
     have hk2 := fun h : x = 46 => hbd (by rw [h]; exact okS_f2)
     have hk3 := fun (h : K = 1) (h2 : x ≠ 46) => hs1 (okS_t (by rw [<- hK]; exact h) h2)
     rw [<- hK, <- hB] at hma
     clear hbd hs1 hK hB
     have HMA := h_ hma; clear hma
     have HK1 := h_ hk1; clear hk1
     have HK2 := h_ hk2; clear hk2
     have HK3 := h_ hk3; clear hk3
     have HS2 := h_ hs2; clear hs2
     by_cases hKe : K = 1
     ·by_cases hxe : x = 46
      ·have hf := HK2.out hxe
       subst hf
       subst hKe
       subst hxe
       go_wp2_with (first | (go_at_call 218; refine (HMA.out _).mono ?_; rintro e w3 ⟨rfl, hb3⟩; have HB3 := h_ (HB.out.trans (hb3.mono HB.out.size)); clear hb3) | fail)
       go_ret
       exact ⟨rfl, HB3.out⟩
      ·have hall2 := HK3.out hKe hxe
       have HA2 := h_ hall2; clear hall2
       have q1 : (x == 46) = false := by simp [hxe]
       subst hKe
       clear hxe
       obtain ⟨m, hm⟩ := ex_ ((l.take k).any farS)
       rw [<- hm] at HS2 ⊢
       clear hm
       have hcs : m = true ∨ (m = false ∧ 127 < x) ∨ (m = false ∧ x <= 127) := by
        cases m
        ·right; simp only [true_and]; omega
        ·exact .inl rfl
       rcases hcs with rfl | ⟨rfl, hf⟩ | ⟨rfl, hf⟩
       all_goals
        go_wp2_with (first | (go_at_call 218; refine (HMA.out _).mono ?_; rintro e w3 ⟨rfl, hb3⟩; have HB3 := h_ (HB.out.trans (hb3.mono HB.out.size)); clear hb3) | fail)
        go_roundw
        case rel => exact ⟨k + 1, by omega, by simp, by rw [HS2.out]; unfold farS; simp <;> omega, HA2.out, HB3.out⟩
        case measure => simp [intOf]; omega
     ·have hf := HK1.out hKe
      subst hf
      have q1 : (K != 1) = true := by simp [hKe]
      go_wp2_with (first | (go_at_call 218; refine (HMA.out _).mono ?_; rintro e w3 ⟨rfl, hb3⟩; have HB3 := h_ (HB.out.trans (hb3.mono HB.out.size)); clear hb3) | fail)
      go_ret
      exact ⟨rfl, HB3.out⟩
    ·obtain rfl : L = k := by omega
     have hall := HA.out
     rw [List.take_of_length_le (by have := HL.out; omega)] at hall ⊢
     have hT := HEND.out hall
     rw [HFR.out, decide_eq_false HX0.out] at hT
     have HT := h_ hT; clear hT hall
     go_wp2_with fail
     go_ret
     exact ⟨ret1_bool (by rw [HT.out]; simp), HB.out⟩

def lowS (b : Bytes) : Bool := b.all (fun x => decide (b2 x < 0x80))
theorem isLow_any (b : Bytes) (w : World) (hl : b.length <= maxLen) : Calls Tryz.prog 231 #[.string (bs b)] w fun e w' => e = .returned (.bool (lowS b)) ∧ w = w' := by
 unfold maxLen at hl
 obtain ⟨s, hs⟩ := ex_ (bs b)
 have hsz : s.size = b.length := by rw [hs, bs_size]
 obtain ⟨T, hT⟩ := ex_ (lowS b)
 rw [<- hs, <- hT]
 have hbad : ∀ k (hk : k < b.length), 0x80 <= b2 b[k] -> T = false := by
  intro k hk h
  rw [hT]; unfold lowS
  rw [List.all_eq_false]
  exact ⟨_, List.getElem_mem hk, by simp; omega⟩
 have hok : (∀ k (hk : k < b.length), b2 b[k] < 0x80) -> T = true := by
  intro h
  rw [hT]; unfold lowS
  rw [List.all_eq_true]
  intro x hx
  obtain ⟨k, hk, rfl⟩ := List.getElem_of_mem hx
  exact decide_eq_true (h k hk)
 clear hT
 obtain ⟨L, hL⟩ := ex_ (b.length)
 rw [<- hL] at hl hsz
 have HL := h_ hL; clear hL
 have HS := h_ hs; clear hs
 have HBAD := h_ hbad; clear hbad
 have HOK := h_ hok; clear hok
 go_enter Tryz.func231, Tryz.ntmps231
 go_wp2_with fail
 go_loopw [6] (fun iv wr => ∃ k : Nat, k <= L ∧ iv = .int .i64 k ∧ (∀ j (hj : j < b.length), j < k -> b2 b[j] < 0x80) ∧ w = wr) (fun i _ => L - (intOf i).toNat)
 case atStart => exact ⟨0, by omega, by simp, fun j _ h => by omega, rfl⟩
 case round =>
  obtain ⟨k, hk, rfl, hall, rfl⟩ := hrel
  have HA := h_ hall; clear hall
  by_cases hlt : k < L
  ·have hx : k < b.length := by have := HL.out; omega
   have hk2 : k < s.size := by omega
   have hxe : ((s[k]'hk2).toNat : Int) = b2 b[k] := str_at HS.out hk2 hx
   have hb := HBAD.out k hx
   have hstep : ((s[k]'hk2).toNat : Int) < 0x80 -> ∀ j (hj : j < b.length), j < k + 1 -> b2 b[j] < 0x80 := by
    intro h j hj h2
    by_cases hjk : j = k
    ·subst hjk; rw [<- hxe]; exact h
    ·exact HA.out j hj (by omega)
   rw [<- hxe] at hb
   clear hxe
   have HBB := h_ hb; clear hb
   have HST := h_ hstep; clear hstep
   have hcs : ((s[k]'hk2).toNat : Int) < 0x80 ∨ 0x80 <= ((s[k]'hk2).toNat : Int) := by omega
   rcases hcs with hc | hc
   ·go_wp2_with fail
    go_roundw
    case rel => exact ⟨k + 1, by omega, by simp, HST.out hc, trivial⟩
    case measure => simp [intOf]; omega
   ·have hf := HBB.out hc
    subst hf
    go_wp2_with fail
    go_ret
    exact ⟨rfl, rfl⟩
  ·have ht := HOK.out (fun j hj => HA.out j hj (by have := HL.out; omega))
   subst ht
   go_wp2_with fail
   go_ret
   exact ⟨rfl, rfl⟩
end Go.Proofs.YtpckaimpjccjhaaGreatDoor
