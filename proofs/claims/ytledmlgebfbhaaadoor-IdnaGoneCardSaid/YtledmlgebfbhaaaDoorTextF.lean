/- The reference's Join, Decode and Right. -/
import Derived.Test.YtledmlgebfbhaaaDoorTextB
import Derived.Test.YtledmlgebfbhaaaDoorTextE
namespace Go.Proofs.YtledmlgebfbhaaaDoor
open Go.RowKit

/-- the bytes of signs, one behind the other -/
def joinF (l : List Int) : Bytes := l.flatMap enc
theorem joinF_cons (c : Int) (l : List Int) : joinF (c :: l) = enc c ++ joinF l := rfl
theorem joinF_append (a b : List Int) : joinF (a ++ b) = joinF a ++ joinF b := by simp [joinF]
theorem enc_len (c : Int) : 1 ≤ (enc c).length ∧ (enc c).length ≤ 4 := by
  by_cases hb : c < 0 ∨ 0x10ffff < c ∨ (0xd800 ≤ c ∧ c ≤ 0xdfff)
  · rw [enc_bad hb]; simp
  by_cases h1 : c < 0x80
  · rw [enc_1 (by omega) h1]; simp
  by_cases h2 : c < 0x800
  · rw [enc_2 (by omega) h2]; simp
  by_cases h3 : c < 0x10000
  · rw [enc_3 (by omega) h3 (by omega)]; simp
  · rw [enc_4 (by omega) (by omega)]; simp
theorem joinF_len (l : List Int) : (joinF l).length ≤ 4 * l.length := by
  induction l with
  | nil => simp [joinF]
  | cons c r ih => rw [joinF_cons, List.length_append, List.length_cons]; have := enc_len c; omega

set_option maxHeartbeats 1000000 in
theorem join_core (xs : List Int) (b o c : Nat) (w : World) (hb : b < w.heap.size) (hl : xs.length ≤ 1000000) (hat : At w b o (I64s xs)) :
    Calls Tryd.prog 25 #[.slice (some ⟨b, o, none⟩) xs.length c] w fun e w' => RetS w (joinF xs) e w' := by
  obtain ⟨i8, hi8, hz8, hz81, hz82⟩ := info_parts u8_info
  obtain ⟨L, hL⟩ : ∃ L, L = xs.length := ⟨_, rfl⟩
  rw [← hL] at hl ⊢
  have HL := Lib.hid hL; clear hL
  obtain ⟨T, hT⟩ : ∃ T, T = joinF xs := ⟨_, rfl⟩
  rw [← hT]
  have HT := Lib.hid hT; clear hT
  have HAT := Lib.hid hat; clear hat
  go_enter Tryd.func25, Tryd.ntmps25
  go_wp2
  go_loopw [3, 4] (fun out i wr => ∃ (k : Nat), k ≤ L ∧ i = .int .i64 k ∧ wr.ownsRow w.heap.size 5 1 out (joinF (xs.take k)).length (Lib.byteCells (joinF (xs.take k))) ∧ w.heap.size ≤ wr.heap.size ∧ Below w.heap.size w wr) (fun _ i _ => L - (intOf i).toNat)
  case atStart => exact ⟨0, by omega, rfl, ⟨by simp [joinF, Lib.byteCells], .inl ⟨rfl, by simp [joinF]⟩⟩, Nat.le_refl _, Below.refl _ _⟩
  case round =>
    obtain ⟨k, hk, rfl, hown, hwz, hbel⟩ := hrel
    have HO := Lib.hid hown; clear hown
    have HB := Lib.hid hbel; clear hbel
    by_cases hlt : k < L
    · have hx : k < xs.length := by have := HL.out; omega
      have hcell : wr.cell? ⟨b, o + k, none⟩ = some (.int .i64 xs[k]) := by
        have h1 := HAT.out k (by simpa using hx)
        have h2 := HB.out.cell (p := ⟨b, o + k, none⟩) hb
        rw [h2, h1]; simp
      have hjl := joinF_len (xs.take k)
      have hel := enc_len xs[k]
      have hkl : (xs.take k).length ≤ k := List.length_take_le _ _
      have hbase : ∀ w1 : World, Below wr.heap.size wr w1 → w.heap.size ≤ w1.heap.size := fun w1 h => by have := h.size; omega
      obtain ⟨x, hxx⟩ : ∃ x, x = xs[k] := ⟨_, rfl⟩
      rw [← hxx] at hcell hel
      have HX := Lib.hid hxx; clear hxx
      go_wp2_with (first | (go_at_call 27; refine (rsign_any _ _).mono ?_; rintro e w1 ⟨rfl, hb1⟩; have HB1 := Lib.hid hb1; clear hb1) | (at_builtin; go_must (refine pushS rfl (.tmp 11) (.tmp 16) _ _ rfl w.heap.size 5 i8 Tryd.underlying36 Tryd.underlying9 hi8 hz8 hz81 hz82 _ _ _ (joinF (xs.take k)) rfl (own_below HO.out HB1.out) (enc x) rfl (by omega) (hbase _ HB1.out) ?_); intro v2 w2 hown2 hw2 hb2; have HO2 := Lib.hid hown2; clear hown2; have HB2 := Lib.hid hb2; clear hb2))
      go_roundw
      case rel =>
        have hb1 := HB1.out
        have hb2 := HB2.out
        have e1 : joinF (xs.take (k + 1)) = joinF (xs.take k) ++ enc x := by
          rw [List.take_succ_eq_append_getElem hx, joinF_append, HX.out]; simp [joinF]
        have ho2 := HO2.out
        rw [← e1, show (joinF (xs.take k)).length + (enc x).length = (joinF (xs.take (k + 1))).length by rw [e1, List.length_append]] at ho2
        exact ⟨k + 1, by omega, by go_num, ho2, by have := hb1.size; omega, (HB.out.trans (hb1.mono (by omega))).trans hb2⟩
      case measure => simp [intOf]; omega
    · have hown := HO.out
      have e1 : xs.take k = xs := List.take_of_length_le (by have := HL.out; omega)
      rw [e1] at hown
      have kc := conv_own Tryd.underlying36 Tryd.underlying5 Tryd.underlying9 hown
      have HK := Lib.hid hown; clear hown e1
      go_wp2
      go_ret
      exact ⟨by rw [HT.out]; rfl, HB.out⟩

/-- Join, of a row of numbers -/
theorem join_any (xs : List Int) (v : Value) (w : World) (h : Sl w.heap.size w v (I64s xs)) (hl : xs.length ≤ 1000000) :
    Calls Tryd.prog 25 #[v] w fun e w' => RetS w (joinF xs) e w' := by
  obtain ⟨c, hc, hm, h⟩ := h
  rcases h with ⟨hn, a, rfl⟩ | ⟨b, o, hb, rfl, ha⟩
  · obtain rfl : xs = [] := by simpa using hn
    have kn := run_convert_bytes_nil (P := Tryd.prog) w 36 5 Tryd.underlying36 Tryd.underlying5 0 0 9 Tryd.underlying9
    go_enter Tryd.func25, Tryd.ntmps25
    go_wp2
    refine wp_loop_rounds 1 ?_
    rw [rounds_succ]
    go_wp2
    go_ret
    exact ⟨rfl, Below.refl _ _⟩
  · rw [show (I64s xs).length = xs.length by simp]
    exact join_core xs b o c w hb hl ha

theorem signs_len : ∀ (n : Nat) (l : Bytes), l.length ≤ n → (signs l).length ≤ l.length
  | _, [], _ => by simp [signs_nil]
  | 0, x :: r, h => by simp at h
  | n + 1, x :: r, h => by
    have hn := nextF_n x r
    rw [List.length_cons] at h
    have hd : ((x :: r).drop (nextN (x :: r))).length ≤ r.length := by rw [List.length_drop, List.length_cons]; omega
    have := signs_len n ((x :: r).drop (nextN (x :: r))) (by omega)
    rw [signs_cons, List.length_cons, List.length_cons]
    omega

/-- what the reference decodes -/
def rdec (l : Bytes) : Bytes := joinF (signs l)
theorem rdec_len (l : Bytes) : (rdec l).length ≤ 4 * l.length := by
  have := joinF_len (signs l)
  have := signs_len _ l (Nat.le_refl _)
  unfold rdec; omega

end Go.Proofs.YtledmlgebfbhaaaDoor
