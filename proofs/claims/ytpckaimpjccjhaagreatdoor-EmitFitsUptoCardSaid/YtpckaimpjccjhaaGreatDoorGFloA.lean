/- number.move, number.exponent. -/
import Derived.Test.YtpckaimpjccjhaaGreatDoorGWlkA
import Derived.Test.YtpckaimpjccjhaaGreatDoorShelf3
import Derived.Test.YtpckaimpjccjhaaGreatDoorGWlkN
set_option maxHeartbeats 40000000
namespace Go.Proofs.YtpckaimpjccjhaaGreatDoor
open Go.RowKit
set_option maxRecDepth 10000
theorem pow_ok {k : Nat} (h : k <= 22) : finB (powF k) = true := pow_fin ⟨k, by omega⟩
theorem run_mul64 {P : Program} (w : World) (t : TypeId) (x y r : Nat) (h : Ieee.double.mul x y = some r) : (binOp .mul t (.float .f64 x) (.float .f64 y)).run P w = .ok (.float .f64 r) w := run_float_arith w .mul t .f64 x y r h
theorem run_div64 {P : Program} (w : World) (t : TypeId) (x y r : Nat) (h : Ieee.double.div x y = some r) : (binOp .quo t (.float .f64 x) (.float .f64 y)).run P w = .ok (.float .f64 r) w := run_float_arith w .quo t .f64 x y r h
theorem move_any (x : Nat) (n : Int) (w : World) (hx : okB x = true) (h0 : -22 <= n) (h1 : n <= 22) :
  Calls Tryz.prog 165 #[.float .f64 x, .int .i64 n] w fun e w' => e = .returned (.float .f64 (moveB x n)) ∧ w' = w := by
 obtain ⟨K, hK⟩ := ex_ (n.natAbs)
 have hK2 : K <= 22 := by omega
 have hmx : (max n (-n) : Int) = (K : Int) := by omega
 have hneg : IntKind.i64.wrap (-n) = -n := IntWalk.i64_in _ (by omega)
 have hmul : ∀ k, k < K -> Ieee.double.mul (powF k) 4621819117588971520 = some (powF (k + 1)) := fun k hk => pow_step (by omega)
 have hone : powF 0 = 4607182418800017408 := rfl
 have hend : moveB x n = if n < 0 then (Ieee.double.div x (powF K)).getD 0 else (Ieee.double.mul x (powF K)).getD 0 := by unfold moveB; rw [hK]
 have hfin := pow_ok hK2
 obtain ⟨m, hm⟩ := mul_ok hx hfin
 obtain ⟨d, hd⟩ := div_ok hx hfin
 rw [hm, hd] at hend
 generalize hP : powF K = PK at hm hd hfin hend
 have HMUL := h_ hmul; clear hmul
 have HP := h_ hP
 clear hP
 have HONE := h_ hone; clear hone
 by_cases hn : n < 0
 ·rw [if_pos hn] at hend
  rw [hend]
  have HD := h_ (fun (W : World) (t : TypeId) => run_div64 (P := Tryz.prog) W t x PK d hd)
  clear hend hm hd hfin hx hK
  go_enter Tryz.func165, Tryz.ntmps165
  go_wp2_with fail
  go_loopw [5, 10] (fun pv iv wr => ∃ k : Nat, k <= K ∧ iv = .int .i64 k ∧ pv = .float .f64 (powF k) ∧ w = wr) (fun _ i _ => K - (intOf i).toNat)
  case atStart => exact ⟨0, by omega, by simp, by rw [HONE.out], rfl⟩
  case round =>
   obtain ⟨k, hk, rfl, rfl, rfl⟩ := hrel
   by_cases hlt : k < K
   ·have hmu := fun (W : World) (t : TypeId) => run_mul64 (P := Tryz.prog) W t (powF k) 4621819117588971520 (powF (k + 1)) (HMUL.out k hlt)
    have hlt2 : (k : Int) < (K : Int) := by omega
    go_wp2_with fail
    go_roundw
    case rel => exact ⟨k + 1, by omega, by simp, by simp, by trivial⟩
    case measure => simp [intOf]; omega
   ·obtain rfl : k = K := by omega
    have hdd := HD.out
    rw [<- HP.out] at hdd
    go_wp2_with fail
    go_ret
    exact ⟨rfl, rfl⟩
 ·rw [if_neg hn] at hend
  rw [hend]
  have HD := h_ (fun (W : World) (t : TypeId) => run_mul64 (P := Tryz.prog) W t x PK m hm)
  clear hend hm hd hfin hx hK
  go_enter Tryz.func165, Tryz.ntmps165
  go_wp2_with fail
  go_loopw [5, 10] (fun pv iv wr => ∃ k : Nat, k <= K ∧ iv = .int .i64 k ∧ pv = .float .f64 (powF k) ∧ w = wr) (fun _ i _ => K - (intOf i).toNat)
  case atStart => exact ⟨0, by omega, by simp, by rw [HONE.out], rfl⟩
  case round =>
   obtain ⟨k, hk, rfl, rfl, rfl⟩ := hrel
   by_cases hlt : k < K
   ·have hmu := fun (W : World) (t : TypeId) => run_mul64 (P := Tryz.prog) W t (powF k) 4621819117588971520 (powF (k + 1)) (HMUL.out k hlt)
    have hlt2 : (k : Int) < (K : Int) := by omega
    go_wp2_with fail
    go_roundw
    case rel => exact ⟨k + 1, by omega, by simp, by simp, by trivial⟩
    case measure => simp [intOf]; omega
   ·obtain rfl : k = K := by omega
    have hdd := HD.out
    rw [<- HP.out] at hdd
    go_wp2_with fail
    go_ret
    exact ⟨rfl, rfl⟩
theorem tp_any (l m : Bytes) (w : World) : Calls Tryz.prog 192 #[.string (bs l), .string (bs m)] w fun e w' => e = .returned (S (Lib.trimPrefix l m)) ∧ w' = w := by
 have h := Any.strings_TrimPrefix Tryz.laysTP (bs l) (bs m) w
 rw [show (bs l).data.toList = l from ls_bs l, show (bs m).data.toList = m from ls_bs m] at h
 exact h
theorem hp1 (x : UInt8) (l : Bytes) : Lib.hasPrefix l [x] = decide (l.head? = some x) := by
 cases l with
 | nil => rfl
 | cons y r =>
  by_cases h : y = x
  ·subst h; simp [Lib.hasPrefix, List.isPrefixOf]
  ·have h2 : (x == y) = false := by simpa using Ne.symm h
   simp [Lib.hasPrefix, List.isPrefixOf, h2, h]
theorem tp1 (x : UInt8) (l : Bytes) : Lib.trimPrefix l [x] = if l.head? = some x then l.drop 1 else l := by
 unfold Lib.trimPrefix
 rw [hp1]
 by_cases h : l.head? = some x
 ·rw [if_pos h, decide_eq_true h]; rfl
 ·rw [if_neg h, decide_eq_false h]; rfl
end Go.Proofs.YtpckaimpjccjhaaGreatDoor
