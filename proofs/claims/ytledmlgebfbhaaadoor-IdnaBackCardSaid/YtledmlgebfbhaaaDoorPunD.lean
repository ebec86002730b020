/- puny: read, and its like in the reference. -/
import Derived.Test.YtledmlgebfbhaaaDoorPunC
namespace Go.Proofs.YtledmlgebfbhaaaDoor
open Go.RowKit

/-- the number whose digits stand first, and how many these are -/
def rdGo : Bytes → Nat → Int → Int → Int → Int × Int
  | [], _, _, _, _ => (0, 0)
  | x :: r, j, sum, wt, bias =>
    let c := wrt (b2 x)
    if c < 0 then (0, 0)
    else if 2147483647 < sum + c * wt then (0, 0)
    else if c < bnd j bias then (sum + c * wt, (j : Int) + 1)
    else rdGo r (j + 1) (sum + c * wt) (wt * (36 - bnd j bias)) bias
theorem rdGo_step {l : Bytes} {k : Nat} (h : k < l.length) (sum wt bias : Int) : rdGo (l.drop k) k sum wt bias =
    if wrt (b2 l[k]) < 0 then (0, 0) else if 2147483647 < sum + wrt (b2 l[k]) * wt then (0, 0) else if wrt (b2 l[k]) < bnd k bias then (sum + wrt (b2 l[k]) * wt, (k : Int) + 1)
    else rdGo (l.drop (k + 1)) (k + 1) (sum + wrt (b2 l[k]) * wt) (wt * (36 - bnd k bias)) bias := by
  rw [List.drop_eq_getElem_cons h]; rfl
def rd (l : Bytes) (bias : Int) : Int × Int := rdGo l 0 0 1 bias
theorem ret2_t {a b : Int} {t : Int × Int} (h : (a, b) = t) : Ending.returned (.tuple #[.int .i64 a, .int .i64 b]) = .returned (.tuple #[.int .i64 t.1, .int .i64 t.2]) := by subst h; rfl
theorem mul_bd {c wt : Int} (h : 0 ≤ c ∧ c ≤ 36) (hw : 1 ≤ wt ∧ wt ≤ 77309411292) : 0 ≤ c * wt ∧ c * wt ≤ 2783138806512 := by
  refine ⟨Int.mul_nonneg h.1 (by omega), ?_⟩
  have h1 : c * wt ≤ 36 * wt := Int.mul_le_mul_of_nonneg_right h.2 (by omega)
  omega
theorem mul_ge {c wt : Int} (h : 1 ≤ c) (hw : 1 ≤ wt) : wt ≤ c * wt := by
  have h1 : 1 * wt ≤ c * wt := Int.mul_le_mul_of_nonneg_right h (by omega)
  omega

set_option maxRecDepth 4000 in
set_option maxHeartbeats 2000000 in
theorem read_any (s : ByteArray) (bias : Int) (w : World) (hs : s.size ≤ 900000) (hb : 0 ≤ bias ∧ bias ≤ 1000000) :
    Calls Tryd.prog 39 #[.string s, .int .i64 bias] w fun e w' => e = .returned (.tuple #[.int .i64 (rd (ls s) bias).1, .int .i64 (rd (ls s) bias).2]) ∧ w = w' := by
  obtain ⟨T, hT⟩ : ∃ T, T = rd (ls s) bias := ⟨_, rfl⟩
  rw [← hT]
  have HT := Lib.hid hT; clear hT
  obtain ⟨l, hl⟩ : ∃ l, l = ls s := ⟨_, rfl⟩
  have hsl : s = bs l := by rw [hl, bs_ls]
  obtain ⟨L, hL⟩ : ∃ L, L = s.size := ⟨_, rfl⟩
  have hLl : L = l.length := by rw [hL, hl, ls_length]
  have hsz : s.size = L := hL.symm
  have HL := Lib.hid hLl; clear hLl
  have HS := Lib.hid hsl; clear hsl
  have HLS := Lib.hid hl; clear hl
  rw [hsz] at hs
  clear hL
  go_enter Tryd.func39, Tryd.ntmps39
  go_wp2
  go_loopw [6, 7, 13] (fun sv wv iv wr => ∃ (k : Nat) (sum wt : Int), k ≤ L ∧ iv = .int .i64 k ∧ sv = .int .i64 sum ∧ wv = .int .i64 wt ∧ rdGo (l.drop k) k sum wt bias = T ∧ 0 ≤ sum ∧ sum ≤ 2147483647 ∧ 1 ≤ wt ∧ wt ≤ 77309411292 ∧ wr = w) (fun _ _ i _ => L - (intOf i).toNat)
  case atStart => exact ⟨0, 0, 1, Nat.zero_le _, rfl, rfl, rfl, by rw [List.drop_zero, HLS.out]; exact HT.out.symm, by omega, by omega, by omega, by omega, rfl⟩
  case round =>
    obtain ⟨k, sum, wt, hk, rfl, rfl, rfl, hf, hs0, hs1, hw0, hw1, rfl⟩ := hrel
    by_cases hlt : k < L
    · have hx : k < l.length := by have := HL.out; omega
      have hk2 : k < s.size := by omega
      rw [rdGo_step hx, ← str_at HS.out hk2 hx] at hf
      have hx8 : 0 ≤ ((s[k]'hk2).toNat : Int) ∧ ((s[k]'hk2).toNat : Int) < 256 := by have := (s[k]'hk2).toNat_lt; omega
      have hcr := wrt_range ((s[k]'hk2).toNat : Int)
      obtain ⟨c, hc⟩ : ∃ c, c = wrt ((s[k]'hk2).toNat : Int) := ⟨_, rfl⟩
      rw [← hc] at hf hcr
      have hwa := fun W => worth_any ((s[k]'hk2).toNat : Int) W hx8
      rw [← hc] at hwa
      have HWA := Lib.hid hwa; clear hwa hx8 hc
      have hbr := bnd_range k bias
      have hba := fun W => bound_any k bias W (by omega) hb
      obtain ⟨b, hb'⟩ : ∃ b, b = bnd k bias := ⟨_, rfl⟩
      rw [← hb'] at hf hba hbr
      have HBA := Lib.hid hba; clear hba hb'
      by_cases hc0 : c < 0
      · rw [if_pos hc0] at hf
        have HF := Lib.hid hf; clear hf
        go_wp2_with (first | (go_at_call 56; refine (HWA.out _).mono ?_; rintro e w2 ⟨rfl, rfl⟩) | fail)
        go_ret2
        exact ⟨ret2_t HF.out, rfl⟩
      · rw [if_neg hc0] at hf
        have hm := mul_bd (c := c) (wt := wt) (by omega) ⟨hw0, hw1⟩
        have hm1 := fun h => mul_ge (c := c) (wt := wt) h hw0
        obtain ⟨p, hp⟩ : ∃ p, p = c * wt := ⟨_, rfl⟩
        rw [← hp] at hf hm hm1
        by_cases hgr : 2147483647 < sum + p
        · rw [if_pos hgr] at hf
          have HF := Lib.hid hf; clear hf
          rw [hp] at hgr hm
          clear hm1
          go_wp2_with (first | (go_at_call 56; refine (HWA.out _).mono ?_; rintro e w2 ⟨rfl, rfl⟩) | fail)
          go_ret2
          exact ⟨ret2_t HF.out, rfl⟩
        · rw [if_neg hgr] at hf
          have hcb : c < b ∨ b ≤ c := by omega
          rcases hcb with hcb | hcb
          · rw [if_pos hcb] at hf
            have HF := Lib.hid hf; clear hf
            rw [hp] at hgr hm HF
            clear hm1
            go_wp2_with (first | (go_at_call 56; refine (HWA.out _).mono ?_; rintro e w2 ⟨rfl, rfl⟩) | (go_at_call 57; refine (HBA.out _).mono ?_; rintro e w2 ⟨rfl, rfl⟩) | fail)
            go_ret2
            exact ⟨ret2_t HF.out, rfl⟩
          · rw [if_neg (by omega)] at hf
            have hwl : wt ≤ 2147483647 := by have := hm1 (by omega); omega
            have hm2 := mul_bd (c := 36 - b) (wt := wt) (by omega) ⟨hw0, hw1⟩
            have hm3 : 36 - b ≤ 35 := by omega
            have hm4 := mul_ge (c := 36 - b) (wt := wt) (by omega) hw0
            have hm5 : (36 - b) * wt ≤ 77309411292 := by
              have h1 : (36 - b) * wt ≤ 35 * wt := Int.mul_le_mul_of_nonneg_right hm3 (by omega)
              omega
            rw [Int.mul_comm (36 - b) wt] at hm2 hm4 hm5
            have HF := Lib.hid hf; clear hf
            rw [hp] at hgr hm HF
            clear hm1
            go_wp2_with (first | (go_at_call 56; refine (HWA.out _).mono ?_; rintro e w2 ⟨rfl, rfl⟩) | (go_at_call 57; refine (HBA.out _).mono ?_; rintro e w2 ⟨rfl, rfl⟩) | fail)
            go_roundw
            case rel => exact ⟨k + 1, sum + c * wt, wt * (36 - b), hlt, by simp, rfl, rfl, HF.out, by omega, by omega, by omega, by omega, trivial⟩
            case measure => simp [intOf]; omega
    · obtain rfl : L = k := by omega
      rw [List.drop_of_length_le (by have := HL.out; omega)] at hf
      have HF := Lib.hid hf; clear hf
      go_wp2
      go_ret2
      exact ⟨ret2_t HF.out, rfl⟩
set_option maxRecDepth 4000 in
set_option maxHeartbeats 2000000 in
theorem number_any (s : ByteArray) (bias : Int) (w : World) (hs : s.size ≤ 900000) (hb : 0 ≤ bias ∧ bias ≤ 1000000) :
    Calls Tryd.prog 69 #[.string s, .int .i64 bias] w fun e w' => e = .returned (.tuple #[.int .i64 (rd (ls s) bias).1, .int .i64 (rd (ls s) bias).2]) ∧ w = w' := by
  obtain ⟨T, hT⟩ : ∃ T, T = rd (ls s) bias := ⟨_, rfl⟩
  rw [← hT]
  have HT := Lib.hid hT; clear hT
  obtain ⟨l, hl⟩ : ∃ l, l = ls s := ⟨_, rfl⟩
  have hsl : s = bs l := by rw [hl, bs_ls]
  obtain ⟨L, hL⟩ : ∃ L, L = s.size := ⟨_, rfl⟩
  have hLl : L = l.length := by rw [hL, hl, ls_length]
  have hsz : s.size = L := hL.symm
  have HL := Lib.hid hLl; clear hLl
  have HS := Lib.hid hsl; clear hsl
  have HLS := Lib.hid hl; clear hl
  rw [hsz] at hs
  clear hL
  go_enter Tryd.func69, Tryd.ntmps69
  go_wp2
  go_loopw [6, 7, 8] (fun sv wv iv wr => ∃ (k : Nat) (sum wt : Int), k ≤ L ∧ iv = .int .i64 k ∧ sv = .int .i64 sum ∧ wv = .int .i64 wt ∧ rdGo (l.drop k) k sum wt bias = T ∧ 0 ≤ sum ∧ sum ≤ 2147483647 ∧ 1 ≤ wt ∧ wt ≤ 77309411292 ∧ wr = w) (fun _ _ i _ => L - (intOf i).toNat)
  case atStart => exact ⟨0, 0, 1, Nat.zero_le _, rfl, rfl, rfl, by rw [List.drop_zero, HLS.out]; exact HT.out.symm, by omega, by omega, by omega, by omega, rfl⟩
  case round =>
    obtain ⟨k, sum, wt, hk, rfl, rfl, rfl, hf, hs0, hs1, hw0, hw1, rfl⟩ := hrel
    by_cases hlt : k < L
    · have hx : k < l.length := by have := HL.out; omega
      have hk2 : k < s.size := by omega
      rw [rdGo_step hx, ← str_at HS.out hk2 hx] at hf
      have hx8 : 0 ≤ ((s[k]'hk2).toNat : Int) ∧ ((s[k]'hk2).toNat : Int) < 256 := by have := (s[k]'hk2).toNat_lt; omega
      have hcr := wrt_range ((s[k]'hk2).toNat : Int)
      obtain ⟨c, hc⟩ : ∃ c, c = wrt ((s[k]'hk2).toNat : Int) := ⟨_, rfl⟩
      rw [← hc] at hf hcr
      have hwa := fun W => rworth_any ((s[k]'hk2).toNat : Int) W hx8
      rw [← hc] at hwa
      have HWA := Lib.hid hwa; clear hwa hx8 hc
      have hbr := bnd_range k bias
      have hba := fun W => rbound_any k bias W (by omega) hb
      obtain ⟨b, hb'⟩ : ∃ b, b = bnd k bias := ⟨_, rfl⟩
      rw [← hb'] at hf hba hbr
      have HBA := Lib.hid hba; clear hba hb'
      by_cases hc0 : c < 0
      · rw [if_pos hc0] at hf
        have HF := Lib.hid hf; clear hf
        go_wp2_with (first | (go_at_call 84; refine (HWA.out _).mono ?_; rintro e w2 ⟨rfl, rfl⟩) | fail)
        go_ret2
        exact ⟨ret2_t HF.out, rfl⟩
      · rw [if_neg hc0] at hf
        have hm := mul_bd (c := c) (wt := wt) (by omega) ⟨hw0, hw1⟩
        have hm1 := fun h => mul_ge (c := c) (wt := wt) h hw0
        obtain ⟨p, hp⟩ : ∃ p, p = c * wt := ⟨_, rfl⟩
        rw [← hp] at hf hm hm1
        by_cases hgr : 2147483647 < sum + p
        · rw [if_pos hgr] at hf
          have HF := Lib.hid hf; clear hf
          rw [hp] at hgr hm
          clear hm1
          go_wp2_with (first | (go_at_call 84; refine (HWA.out _).mono ?_; rintro e w2 ⟨rfl, rfl⟩) | fail)
          go_ret2
          exact ⟨ret2_t HF.out, rfl⟩
        · rw [if_neg hgr] at hf
          have hcb : c < b ∨ b ≤ c := by omega
          rcases hcb with hcb | hcb
          · rw [if_pos hcb] at hf
            have HF := Lib.hid hf; clear hf
            rw [hp] at hgr hm HF
            clear hm1
            go_wp2_with (first | (go_at_call 84; refine (HWA.out _).mono ?_; rintro e w2 ⟨rfl, rfl⟩) | (go_at_call 85; refine (HBA.out _).mono ?_; rintro e w2 ⟨rfl, rfl⟩) | fail)
            go_ret2
            exact ⟨ret2_t HF.out, rfl⟩
          · rw [if_neg (by omega)] at hf
            have hwl : wt ≤ 2147483647 := by have := hm1 (by omega); omega
            have hm2 := mul_bd (c := 36 - b) (wt := wt) (by omega) ⟨hw0, hw1⟩
            have hm3 : 36 - b ≤ 35 := by omega
            have hm4 := mul_ge (c := 36 - b) (wt := wt) (by omega) hw0
            have hm5 : (36 - b) * wt ≤ 77309411292 := by
              have h1 : (36 - b) * wt ≤ 35 * wt := Int.mul_le_mul_of_nonneg_right hm3 (by omega)
              omega
            rw [Int.mul_comm (36 - b) wt] at hm2 hm4 hm5
            have HF := Lib.hid hf; clear hf
            rw [hp] at hgr hm HF
            clear hm1
            go_wp2_with (first | (go_at_call 84; refine (HWA.out _).mono ?_; rintro e w2 ⟨rfl, rfl⟩) | (go_at_call 85; refine (HBA.out _).mono ?_; rintro e w2 ⟨rfl, rfl⟩) | fail)
            go_roundw
            case rel => exact ⟨k + 1, sum + c * wt, wt * (36 - b), hlt, by simp, rfl, rfl, HF.out, by omega, by omega, by omega, by omega, trivial⟩
            case measure => simp [intOf]; omega
    · obtain rfl : L = k := by omega
      rw [List.drop_of_length_le (by have := HL.out; omega)] at hf
      have HF := Lib.hid hf; clear hf
      go_wp2
      go_ret2
      exact ⟨ret2_t HF.out, rfl⟩
end Go.Proofs.YtledmlgebfbhaaaDoor
