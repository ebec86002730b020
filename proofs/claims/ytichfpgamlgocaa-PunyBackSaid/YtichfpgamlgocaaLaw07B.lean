/- The walk of PunyBack. -/
import Derived.Test.YtichfpgamlgocaaLaw07A
namespace Go.Proofs.Ytichfpgamlgocaa
open Go.RowKit

/-- what the loop knows behind the first k signs -/
def mayK (l : List Int) (k : Nat) : Bool := decide (l.length ≤ 255) && (l.take k).all sg
theorem mayK_zero (l : List Int) : mayK l 0 = decide (l.length ≤ 255) := by unfold mayK; rw [List.take_zero]; simp
theorem mayK_snoc {l : List Int} {k : Nat} (h : k < l.length) : mayK l (k + 1) = (mayK l k && sg l[k]) := by
  unfold mayK
  rw [List.take_succ_eq_append_getElem h, List.all_append, Bool.and_assoc]
  simp
theorem sgF {c : Int} (h : ¬ (0 ≤ c ∧ c ≤ 0x10ffff ∧ (c < 0xd800 ∨ 0xdfff < c))) : sg c = false := by unfold sg; exact decide_eq_false h
theorem mayK_end {l : List Int} {k : Nat} (h : ¬ (k < l.length ∧ k < 300)) : mayK l k = (encR l).2 := by
  by_cases hl : l.length ≤ 255
  · unfold mayK
    rw [List.take_of_length_le (by omega)]
    unfold encR
    by_cases ha : l.all sg = true
    · rw [if_neg (by rw [ha]; simp; omega), ha]; simp [hl]
    · rw [if_pos (.inr ha)]; simp at ha; simp [ha]
  · unfold mayK encR
    rw [if_pos (.inl (by omega))]
    simp [hl]

set_option maxRecDepth 8000 in
set_option maxHeartbeats 2000000 in
theorem punyBack_walk (v : Value) (l : List Int) (w : World) (h : Sl w.heap.size w v (I64s l)) (hm : ∀ n ∈ l, (Lit.int .i64 n).wf = true) :
    Calls Try.prog 4 #[v] w fun e w' => e = .returned (.bool true) ∧ Below w.heap.size w w' := by
  obtain ⟨av, c, rfl⟩ := slice_val h
  rw [show (I64s l).length = l.length by simp] at h ⊢
  have hLm : l.length ≤ maxLen := by
    obtain ⟨c1, h1, h2, _⟩ := h
    have h3 : (I64s l).length = l.length := by simp
    omega
  unfold maxLen at hLm
  have hc : ∃ (A : Bytes) (a : Bool), encR l = (A, a) ∧ (a = false → A = [] ∧ decF A = some []) ∧ (a = true → decF A = some l) ∧ A.length ≤ 100000 ∧ ∀ k, ¬ (k < l.length ∧ k < 300) → mayK l k = a := by
    have hme := fun (k : Nat) (hk : ¬ (k < l.length ∧ k < 300)) => mayK_end (l := l) hk
    rcases encR_cases l with e1 | ⟨e1, f1, g1⟩
    · rw [e1] at hme
      exact ⟨[], false, e1, fun _ => ⟨rfl, d5⟩, fun h => absurd h (by simp), by simp, hme⟩
    · rw [e1] at hme
      have := encF_len f1 g1
      exact ⟨encF l, true, e1, fun h => absurd h (by simp), fun _ => dec_of_enc f1 g1, by omega, hme⟩
  obtain ⟨A, a, ha, hf, ht, hAl, hend⟩ := hc
  have H := Lib.hid h; clear h
  have HA := Lib.hid ha; clear ha
  have HF := Lib.hid hf; clear hf
  have HTR := Lib.hid ht; clear ht
  have HE := Lib.hid hend; clear hend
  have hz := mayK_zero l
  obtain ⟨L, hL⟩ : ∃ L, L = l.length := ⟨_, rfl⟩
  rw [← hL] at hLm hz ⊢
  have HL := Lib.hid hL; clear hL
  have HM := Lib.hid hm; clear hm
  have HZ := Lib.hid hz; clear hz
  go_enter Try.func4, Try.ntmps4
  go_wp2_with fail
  refine (small7_any _).mono ?_
  rintro e w1 ⟨rfl, hb1⟩
  have HB1 := Lib.hid hb1; clear hb1
  go_wp2_with fail
  refine (encode_val l _ A _ _ _ (HL.out ▸ H.out.below HB1.out) (HB1.out.size) HA.out).mono ?_
  rintro e w2 ⟨rfl, hb2⟩
  have HB2 := Lib.hid (HB1.out.trans (hb2.mono HB1.out.size)); clear hb2 HB1
  have hat := slice_at (HL.out ▸ H.out.below HB2.out)
  have HAT := Lib.hid hat; clear hat
  go_wp2_with fail
  go_loopw [6, 7] (fun may i wr => ∃ k : Nat, k ≤ L ∧ k ≤ 300 ∧ i = .int .i64 k ∧ may = .bool (mayK l k) ∧ wr = w2) (fun _ i _ => L - (intOf i).toNat)
  case atStart => exact ⟨0, by omega, by omega, by simp, by rw [HZ.out] <;> simp <;> omega, rfl⟩
  case round =>
    obtain ⟨k, hk, hk3, rfl, rfl, rfl⟩ := hrel
    by_cases hlt : k < L ∧ k < 300
    · obtain ⟨hlt, hlt3⟩ := hlt
      have hx : k < l.length := by have := HL.out; omega
      have hsn := mayK_snoc hx
      obtain ⟨b, o, rfl, hb, hcell⟩ := HAT.out k hx
      obtain ⟨x, hxx⟩ : ∃ x, x = l[k] := ⟨_, rfl⟩
      rw [← hxx] at hsn hcell
      clear hxx
      obtain ⟨m, hm⟩ : ∃ m, m = mayK l k := ⟨_, rfl⟩
      rw [← hm] at hsn ⊢
      clear hm
      have HSN := Lib.hid hsn; clear hsn
      have hcs : (m = false) ∨ (m = true ∧ x < 0) ∨ (m = true ∧ 0 ≤ x ∧ 0x10ffff < x) ∨ (m = true ∧ 0 ≤ x ∧ x ≤ 0x10ffff ∧ x < 0xd800) ∨ (m = true ∧ 0 ≤ x ∧ x ≤ 0x10ffff ∧ 0xd800 ≤ x ∧ 0xdfff < x) ∨ (m = true ∧ 0 ≤ x ∧ x ≤ 0x10ffff ∧ 0xd800 ≤ x ∧ x ≤ 0xdfff) := by
        cases m
        · exact .inl rfl
        · right; simp only [true_and]; omega
      rcases hcs with rfl | ⟨rfl, h1⟩ | ⟨rfl, h1, h2⟩ | ⟨rfl, h1, h2, h3⟩ | ⟨rfl, h1, h2, h3, h4⟩ | ⟨rfl, h1, h2, h3, h4⟩
      all_goals
        go_wp2_with fail
        go_roundw
        case rel =>
          refine ⟨k + 1, by omega, by omega, by simp, ?_, trivial⟩
          rw [HSN.out]
          first
            | rfl
            | (rw [sgF (by omega)]; rfl)
            | (rw [sgF (by omega)]; simp; omega)
            | (rw [sg_iff.mpr (by omega)]; rfl)
            | (rw [sg_iff.mpr (by omega)]; simp; omega)
        case measure => simp [intOf]; omega
    · have hmk := HE.out k (by have := HL.out; omega)
      rw [hmk]
      clear hmk
      have hcs : L ≤ k ∨ (k < L ∧ 300 ≤ k) := by omega
      clear hlt
      rcases hcs with hc | ⟨hc, hc2⟩
      all_goals
        cases a
        · obtain ⟨rfl, hd⟩ := HF.out rfl
          have hee : (bs []).toList.isEmpty = true := by rw [toList_bs]; rfl
          have HD := Lib.hid hd; clear hd
          go_wp2_with fail
          refine (decode_core [] _ (by simp)).mono ?_
          rintro e w3 ⟨v3, rfl, ho3, _, hb3⟩
          have HB3 := Lib.hid (HB2.out.trans (hb3.mono HB2.out.size)); clear hb3
          rw [HD.out]
          go_wp2_with fail
          go_ret
          exact ⟨rfl, HB3.out⟩
        · have hd := HTR.out rfl
          have HD := Lib.hid hd; clear hd
          go_wp2_with fail
          refine (decode_core A _ hAl).mono ?_
          rintro e w3 ⟨v3, rfl, ho3, _, hb3⟩
          have HB3 := Lib.hid (HB2.out.trans (hb3.mono HB2.out.size)); clear hb3
          rw [HD.out] at ho3
          have HO3 := Lib.hid ho3; clear ho3
          rw [HD.out]
          go_wp2_with fail
          refine (ints_any l l _ _ _ _ _ (HL.out ▸ H.out.below HB3.out) (Sl.of_own HO3.out)).mono ?_
          rintro e w4 ⟨rfl, hb4⟩
          have HB4 := Lib.hid (HB3.out.trans (hb4.mono HB3.out.size)); clear hb4
          go_wp2_with fail
          go_ret
          exact ⟨ret1_bool (by simp), HB4.out⟩
end Go.Proofs.Ytichfpgamlgocaa
