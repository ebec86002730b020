/- puny: least, nextBias, read, and their like in the reference. -/
import Derived.Test.YtledmlgebfbhaaaDoorPunA
import Derived.Test.YtledmlgebfbhaaaDoorSlic
namespace Go.Proofs.YtledmlgebfbhaaaDoor
open Go.RowKit

/-- the least of l that is not below low -/
def lsF : List Int → Int → Int → Int
  | [], _, f => f
  | c :: r, low, f => lsF r low (if low ≤ c ∧ (f < 0 ∨ c < f) then c else f)
theorem lsF_step {l : List Int} {k : Nat} (h : k < l.length) (low f : Int) : lsF (l.drop k) low f = lsF (l.drop (k + 1)) low (if low ≤ l[k] ∧ (f < 0 ∨ l[k] < f) then l[k] else f) := by
  rw [List.drop_eq_getElem_cons h]; rfl

set_option maxHeartbeats 1000000 in
theorem least_any (l : List Int) (low : Int) (v : Value) (w : World) (B : Nat) (h : Sl B w v (I64s l)) (hl : l.length ≤ 1000000) :
    Calls Tryd.prog 65 #[v, .int .i64 low] w fun e w' => e = .returned (.int .i64 (lsF l low (-1))) ∧ w = w' := by
  obtain ⟨av, c, rfl⟩ := slice_val h
  rw [show (I64s l).length = l.length by simp] at h ⊢
  have hat := slice_at h
  clear h
  have HAT := Lib.hid hat; clear hat
  obtain ⟨L, hL⟩ : ∃ L, L = l.length := ⟨_, rfl⟩
  rw [← hL] at hl ⊢
  have HL := Lib.hid hL; clear hL
  obtain ⟨T, hT⟩ : ∃ T, T = lsF l low (-1) := ⟨_, rfl⟩
  rw [← hT]
  have HT := Lib.hid hT; clear hT
  go_enter Tryd.func65, Tryd.ntmps65
  go_wp2
  go_loopw [5, 10] (fun f i wr => ∃ (k : Nat) (f' : Int), k ≤ L ∧ i = .int .i64 k ∧ f = .int .i64 f' ∧ lsF (l.drop k) low f' = T ∧ wr = w) (fun _ i _ => L - (intOf i).toNat)
  case atStart => exact ⟨0, -1, Nat.zero_le _, rfl, rfl, by rw [List.drop_zero]; exact HT.out.symm, rfl⟩
  case round =>
    obtain ⟨k, f, hk, rfl, rfl, hf, rfl⟩ := hrel
    by_cases hlt : k < L
    · have hx : k < l.length := by have := HL.out; omega
      obtain ⟨b, o, rfl, hb, hcell⟩ := HAT.out k hx
      rw [lsF_step hx] at hf
      obtain ⟨x, hxx⟩ : ∃ x, x = l[k] := ⟨_, rfl⟩
      rw [← hxx] at hf hcell
      clear hxx
      have HF := Lib.hid hf; clear hf
      have hcs : x < low ∨ (low ≤ x ∧ f < 0) ∨ (low ≤ x ∧ 0 ≤ f ∧ x < f) ∨ (low ≤ x ∧ 0 ≤ f ∧ f ≤ x) := by omega
      rcases hcs with h1 | ⟨h1, h2⟩ | ⟨h1, h2, h3⟩ | ⟨h1, h2, h3⟩
      all_goals
        go_wp2
        go_roundw
        case rel =>
          have hf := HF.out
          first
            | (rw [if_pos (by omega)] at hf; exact ⟨k + 1, x, hlt, by simp, rfl, hf, trivial⟩)
            | (rw [if_neg (by omega)] at hf; exact ⟨k + 1, f, hlt, by simp, rfl, hf, trivial⟩)
        case measure => simp [intOf]; omega
    · obtain rfl : L = k := by omega
      rw [List.drop_of_length_le (by have := HL.out; omega)] at hf
      have hf' : f = T := hf
      clear hf
      subst hf'
      go_wp2
      go_ret
      exact ⟨rfl, rfl⟩

/-- the reference's least -/
def lsR : List Int → Int → Int → Int
  | [], _, m => m
  | c :: r, low, m => lsR r low (if low ≤ c then min m c else m)
theorem lsR_step {l : List Int} {k : Nat} (h : k < l.length) (low f : Int) : lsR (l.drop k) low f = lsR (l.drop (k + 1)) low (if low ≤ l[k] then min f l[k] else f) := by
  rw [List.drop_eq_getElem_cons h]; rfl
set_option maxHeartbeats 1000000 in
theorem rleast_any (l : List Int) (low : Int) (v : Value) (w : World) (B : Nat) (h : Sl B w v (I64s l)) (hl : l.length ≤ 1000000) :
    Calls Tryd.prog 72 #[v, .int .i64 low] w fun e w' => e = .returned (.int .i64 (lsR l low 0x110000)) ∧ w = w' := by
  obtain ⟨av, c, rfl⟩ := slice_val h
  rw [show (I64s l).length = l.length by simp] at h ⊢
  have hat := slice_at h
  clear h
  have HAT := Lib.hid hat; clear hat
  obtain ⟨L, hL⟩ : ∃ L, L = l.length := ⟨_, rfl⟩
  rw [← hL] at hl ⊢
  have HL := Lib.hid hL; clear hL
  obtain ⟨T, hT⟩ : ∃ T, T = lsR l low 0x110000 := ⟨_, rfl⟩
  rw [← hT]
  have HT := Lib.hid hT; clear hT
  go_enter Tryd.func72, Tryd.ntmps72
  go_wp2
  go_loopw [5, 6] (fun f i wr => ∃ (k : Nat) (f' : Int), k ≤ L ∧ i = .int .i64 k ∧ f = .int .i64 f' ∧ lsR (l.drop k) low f' = T ∧ wr = w) (fun _ i _ => L - (intOf i).toNat)
  case atStart => exact ⟨0, 0x110000, Nat.zero_le _, rfl, rfl, by rw [List.drop_zero]; exact HT.out.symm, rfl⟩
  case round =>
    obtain ⟨k, f, hk, rfl, rfl, hf, rfl⟩ := hrel
    by_cases hlt : k < L
    · have hx : k < l.length := by have := HL.out; omega
      obtain ⟨b, o, rfl, hb, hcell⟩ := HAT.out k hx
      rw [lsR_step hx] at hf
      obtain ⟨x, hxx⟩ : ∃ x, x = l[k] := ⟨_, rfl⟩
      rw [← hxx] at hf hcell
      clear hxx
      have HF := Lib.hid hf; clear hf
      have hcs : x < low ∨ (low ≤ x ∧ x < f) ∨ (low ≤ x ∧ f ≤ x) := by omega
      rcases hcs with h1 | ⟨h1, h2⟩ | ⟨h1, h2⟩
      all_goals
        go_wp2
        go_roundw
        case rel =>
          have hf := HF.out
          first
            | (rw [if_neg (by omega)] at hf; exact ⟨k + 1, f, hlt, by simp, rfl, hf, trivial⟩)
            | (rw [if_pos (by omega), show min f x = x by omega] at hf; exact ⟨k + 1, x, hlt, by simp, by simp <;> omega, hf, trivial⟩)
            | (rw [if_pos (by omega), show min f x = f by omega] at hf; exact ⟨k + 1, f, hlt, by simp, by simp <;> omega, hf, trivial⟩)
        case measure => simp [intOf]; omega
    · obtain rfl : L = k := by omega
      rw [List.drop_of_length_le (by have := HL.out; omega)] at hf
      have hf' : f = T := hf
      clear hf
      subst hf'
      go_wp2
      go_ret
      exact ⟨rfl, rfl⟩
end Go.Proofs.YtledmlgebfbhaaaDoor
