/- The reference's Sign, and Ints. -/
import Derived.Test.YtledmlgebfbhaaaDoorTextA
namespace Go.Proofs.YtledmlgebfbhaaaDoor
open Go.RowKit

theorem enc_1 {c : Int} (h1 : 0 ≤ c) (h2 : c < 0x80) : enc c = [UInt8.ofNat c.toNat] := by
  have hv : Utf8.valid c = true := by unfold Utf8.valid; simp; omega
  unfold enc Utf8.encode
  simp only [hv, if_true]
  rw [if_pos (by omega)]
  rfl
theorem enc_2 {c : Int} (h1 : 0x80 ≤ c) (h2 : c < 0x800) : enc c = [UInt8.ofNat (192 + c / 64).toNat, UInt8.ofNat (128 + c % 64).toNat] := by
  have hv : Utf8.valid c = true := by unfold Utf8.valid; simp; omega
  unfold enc Utf8.encode
  simp only [hv, if_true]
  rw [if_neg (by omega), if_pos (by omega), show (192 + c / 64).toNat = 192 + c.toNat / 64 by omega, show (128 + c % 64).toNat = 128 + c.toNat % 64 by omega]
  rfl
theorem enc_3 {c : Int} (h1 : 0x800 ≤ c) (h2 : c < 0x10000) (h3 : c < 0xd800 ∨ 0xdfff < c) :
    enc c = [UInt8.ofNat (224 + c / 4096).toNat, UInt8.ofNat (128 + c / 64 % 64).toNat, UInt8.ofNat (128 + c % 64).toNat] := by
  have hv : Utf8.valid c = true := by unfold Utf8.valid; simp; omega
  unfold enc Utf8.encode
  simp only [hv, if_true]
  rw [if_neg (by omega), if_neg (by omega), if_pos (by omega), show (224 + c / 4096).toNat = 224 + c.toNat / 4096 by omega, show (128 + c / 64 % 64).toNat = 128 + c.toNat / 64 % 64 by omega, show (128 + c % 64).toNat = 128 + c.toNat % 64 by omega]
  rfl
theorem enc_4 {c : Int} (h1 : 0x10000 ≤ c) (h2 : c ≤ 0x10ffff) :
    enc c = [UInt8.ofNat (240 + c / 262144).toNat, UInt8.ofNat (128 + c / 4096 % 64).toNat, UInt8.ofNat (128 + c / 64 % 64).toNat, UInt8.ofNat (128 + c % 64).toNat] := by
  have hv : Utf8.valid c = true := by unfold Utf8.valid; simp; omega
  unfold enc Utf8.encode
  simp only [hv, if_true]
  rw [if_neg (by omega), if_neg (by omega), if_neg (by omega), show (240 + c / 262144).toNat = 240 + c.toNat / 262144 by omega, show (128 + c / 4096 % 64).toNat = 128 + c.toNat / 4096 % 64 by omega, show (128 + c / 64 % 64).toNat = 128 + c.toNat / 64 % 64 by omega, show (128 + c % 64).toNat = 128 + c.toNat % 64 by omega]
  rfl
theorem enc_bad {c : Int} (h : c < 0 ∨ 0x10ffff < c ∨ (0xd800 ≤ c ∧ c ≤ 0xdfff)) : enc c = [0xef, 0xbf, 0xbd] := by
  unfold enc
  rw [encode_bad (valid_false h), ls_bs]

theorem rsign_end {l m : Bytes} (h : m = l) : Ending.returned (.string (bs l)) = .returned (S m) := by rw [h]

set_option maxHeartbeats 400000 in
theorem rsign_1 (c : Int) (w : World) (h1 : 0 ≤ c) (h2 : c < 0x80) :
    Calls Tryd.prog 27 #[.int .i64 c] w fun e w' => e = .returned (S (enc c)) ∧ Below w.heap.size w w' := by
  have k := conv1 (P := Tryd.prog) Tryd.underlying36 Tryd.underlying5 Tryd.underlying9 c (by omega)
  have h3 : c < 0x800 := by omega
  go_enter Tryd.func27, Tryd.ntmps27
  go_wp2
  go_ret
  exact ⟨rsign_end (enc_1 h1 h2), (Below.refl _ _).alloc (Nat.le_refl _) _⟩

set_option maxHeartbeats 400000 in
theorem rsign_2 (c : Int) (w : World) (h1 : 0x80 ≤ c) (h2 : c < 0x800) :
    Calls Tryd.prog 27 #[.int .i64 c] w fun e w' => e = .returned (S (enc c)) ∧ Below w.heap.size w w' := by
  have k := conv2 (P := Tryd.prog) Tryd.underlying36 Tryd.underlying5 Tryd.underlying9 (192 + c / 64) (128 + c % 64) (by omega) (by omega)
  go_enter Tryd.func27, Tryd.ntmps27
  go_wp2
  go_ret
  exact ⟨rsign_end (enc_2 h1 h2), (Below.refl _ _).alloc (Nat.le_refl _) _⟩

set_option maxHeartbeats 400000 in
theorem rsign_3 (c : Int) (w : World) (h1 : 0x800 ≤ c) (h2 : c < 0x10000) (h3 : c < 0xd800 ∨ 0xdfff < c) :
    Calls Tryd.prog 27 #[.int .i64 c] w fun e w' => e = .returned (S (enc c)) ∧ Below w.heap.size w w' := by
  have k := conv3 (P := Tryd.prog) Tryd.underlying36 Tryd.underlying5 Tryd.underlying9 (224 + c / 4096) (128 + c / 64 % 64) (128 + c % 64) (by omega) (by omega) (by omega)
  have hh := Lib.hid h3; clear h3
  rcases hh.out with h3 | h3
  all_goals clear hh
  all_goals go_enter Tryd.func27, Tryd.ntmps27
  all_goals go_wp2
  all_goals go_ret
  all_goals exact ⟨rsign_end (enc_3 h1 h2 (by omega)), (Below.refl _ _).alloc (Nat.le_refl _) _⟩

set_option maxHeartbeats 400000 in
theorem rsign_4 (c : Int) (w : World) (h1 : 0x10000 ≤ c) (h2 : c ≤ 0x10ffff) :
    Calls Tryd.prog 27 #[.int .i64 c] w fun e w' => e = .returned (S (enc c)) ∧ Below w.heap.size w w' := by
  have k := conv4 (P := Tryd.prog) Tryd.underlying36 Tryd.underlying5 Tryd.underlying9 (240 + c / 262144) (128 + c / 4096 % 64) (128 + c / 64 % 64) (128 + c % 64) (by omega) (by omega) (by omega) (by omega)
  go_enter Tryd.func27, Tryd.ntmps27
  go_wp2
  go_ret
  exact ⟨rsign_end (enc_4 h1 h2), (Below.refl _ _).alloc (Nat.le_refl _) _⟩

set_option maxHeartbeats 400000 in
theorem rsign_bad (c : Int) (w : World) (h : c < 0 ∨ 0x10ffff < c ∨ (0xd800 ≤ c ∧ c ≤ 0xdfff)) :
    Calls Tryd.prog 27 #[.int .i64 c] w fun e w' => e = .returned (S (enc c)) ∧ Below w.heap.size w w' := by
  have k := conv3 (P := Tryd.prog) Tryd.underlying36 Tryd.underlying5 Tryd.underlying9 239 191 189 (by omega) (by omega) (by omega)
  have hh := Lib.hid h; clear h
  rcases hh.out with h3 | h3 | ⟨h3, h4⟩
  all_goals go_enter Tryd.func27, Tryd.ntmps27
  all_goals go_wp2
  all_goals go_ret
  all_goals exact ⟨rsign_end (enc_bad hh.out), (Below.refl _ _).alloc (Nat.le_refl _) _⟩

theorem rsign_any (c : Int) (w : World) :
    Calls Tryd.prog 27 #[.int .i64 c] w fun e w' => e = .returned (S (enc c)) ∧ Below w.heap.size w w' := by
  by_cases hb : c < 0 ∨ 0x10ffff < c ∨ (0xd800 ≤ c ∧ c ≤ 0xdfff)
  · exact rsign_bad c w hb
  by_cases h1 : c < 0x80
  · exact rsign_1 c w (by omega) h1
  by_cases h2 : c < 0x800
  · exact rsign_2 c w (by omega) h2
  by_cases h3 : c < 0x10000
  · exact rsign_3 c w (by omega) h3 (by omega)
  · exact rsign_4 c w (by omega) (by omega)

end Go.Proofs.YtledmlgebfbhaaaDoor
