/- The reference's Signs. -/
import Derived.Test.YtledmlgebfbhaaaDoorSlic
import Derived.Test.YtledmlgebfbhaaaDoorTextA
import Derived.Test.YtledmlgebfbhaaaDoorTextD
namespace Go.Proofs.YtledmlgebfbhaaaDoor
open Go.RowKit

theorem nextGo_le : ∀ (r : Bytes) (m k : Nat) (c lo hi : Int), (k : Int) ≤ (nextGo r m k c lo hi).2.1 ∧ (nextGo r m k c lo hi).2.1 ≤ (k : Int) + r.length
  | _, 0, k, c, _, _ => by simp [nextGo]; omega
  | [], _ + 1, k, _, _, _ => by simp [nextGo]
  | x :: r, m + 1, k, c, lo, hi => by
    unfold nextGo
    split
    · simp; omega
    · have := nextGo_le r m (k + 1) (64 * c + b2 x - 0x80) 0x80 0xbf
      simp only [List.length_cons]
      omega
/-- how many bytes Next takes -/
def nextN (l : Bytes) : Nat := (nextF l).2.1.toNat
theorem nextF_n (x : UInt8) (r : Bytes) : (nextF (x :: r)).2.1 = (nextN (x :: r) : Int) ∧ 1 ≤ nextN (x :: r) ∧ nextN (x :: r) ≤ r.length + 1 := by
  have h : 1 ≤ (nextF (x :: r)).2.1 ∧ (nextF (x :: r)).2.1 ≤ 1 + r.length := by
    unfold nextF
    simp only
    split
    · simp; omega
    split
    · simp; omega
    split
    · have := nextGo_le r 1 1 (b2 x % 32) (leadF (b2 x)).2.1 (leadF (b2 x)).2.2; omega
    split
    · have := nextGo_le r 2 1 (b2 x % 16) (leadF (b2 x)).2.1 (leadF (b2 x)).2.2; omega
    · have := nextGo_le r 3 1 (b2 x % 8) (leadF (b2 x)).2.1 (leadF (b2 x)).2.2; omega
  unfold nextN
  omega

def signsF : Nat → Bytes → List Int
  | 0, _ => []
  | _, [] => []
  | f + 1, x :: r => (nextF (x :: r)).1 :: signsF f ((x :: r).drop (nextN (x :: r)))
/-- the signs of bytes, as the reference tells them -/
def signs (l : Bytes) : List Int := signsF l.length l
theorem signsF_cons (f : Nat) (x : UInt8) (r : Bytes) : signsF (f + 1) (x :: r) = (nextF (x :: r)).1 :: signsF f ((x :: r).drop (nextN (x :: r))) := rfl
theorem signsF_same : ∀ (f g : Nat) (l : Bytes), l.length ≤ f → l.length ≤ g → signsF f l = signsF g l
  | 0, g, l, h, _ => by
    obtain rfl : l = [] := List.eq_nil_of_length_eq_zero (by omega)
    cases g <;> rfl
  | f + 1, 0, l, _, h => by
    obtain rfl : l = [] := List.eq_nil_of_length_eq_zero (by omega)
    rfl
  | f + 1, g + 1, [], _, _ => rfl
  | f + 1, g + 1, x :: r, h, h' => by
    have hn := nextF_n x r
    rw [List.length_cons] at h h'
    have hd : ((x :: r).drop (nextN (x :: r))).length ≤ r.length := by rw [List.length_drop, List.length_cons]; omega
    rw [signsF_cons, signsF_cons, signsF_same f g _ (by omega) (by omega)]
theorem signs_nil : signs [] = [] := rfl
theorem signs_cons (x : UInt8) (r : Bytes) : signs (x :: r) = (nextF (x :: r)).1 :: signs ((x :: r).drop (nextN (x :: r))) := by
  have hn := nextF_n x r
  have hd : ((x :: r).drop (nextN (x :: r))).length ≤ r.length := by rw [List.length_drop, List.length_cons]; omega
  unfold signs
  rw [List.length_cons, signsF_cons, signsF_same r.length _ _ hd (Nat.le_refl _)]

theorem At.from_ {w : World} {b o k : Nat} {xs : List Value} (h : At w b o xs) : At w b (o + k) (xs.drop k) := fun j hj => by
  have hj' : k + j < xs.length := by simp at hj; omega
  have := h (k + j) hj'
  rw [Nat.add_assoc, this]
  simp
theorem At.from' {w : World} {b o o' k c : Nat} {l : Bytes} (h : At w b o (Lib.byteCells l)) (hl : l.length ≤ c) (ho : k < c → o' = o + k) : At w b o' (Lib.byteCells (l.drop k)) := by
  by_cases hk : k < c
  · rw [ho hk]
    have := h.from_ (k := k)
    rwa [show (Lib.byteCells l).drop k = Lib.byteCells (l.drop k) by simp [Lib.byteCells]] at this
  · intro j hj
    simp [Lib.byteCells] at hj
    omega
set_option maxHeartbeats 1000000 in
/-- the reference's Signs -/
theorem rsigns_any (s : ByteArray) (w : World) (hs : s.size ≤ 1000000) :
    Calls Tryd.prog 33 #[.string s] w fun e w' => RetRow w 3 (I64s (signs (ls s))) e w' := by
  obtain ⟨i0, hi0, hz0, hz1, hz2⟩ := info_parts i64_info
  obtain ⟨i8, hi8, hz8, hz81, hz82⟩ := info_parts u8_info
  have kb := fun W => run_bytes_of_string (P := Tryd.prog) W 9 36 5 s Tryd.underlying9 Tryd.underlying36 Tryd.underlying5
  obtain ⟨cp, hcp⟩ : ∃ cp, cp = grownCap w s.size 0 5 := ⟨_, rfl⟩
  have hcp1 : s.size ≤ cp := by rw [hcp]; exact grownCap_ge _ _ _ _
  have hcp2 : cp ≤ maxLen := by rw [hcp]; exact grownCap_le_maxLen _ _ _ _ (by unfold maxLen; omega)
  have kb' := kb w
  rw [← hcp] at kb'
  clear kb hcp
  obtain ⟨T, hT⟩ : ∃ T, T = signs (ls s) := ⟨_, rfl⟩
  rw [← hT]
  have HT := Lib.hid hT; clear hT
  go_enter Tryd.func33, Tryd.ntmps33
  go_wp2
  obtain ⟨hat, hbw, hsz⟩ := bytes_new w s cp 5 ((bytesRow s cp).size, (bytesRow s cp).size + 1)
  clear kb'
  go_loopw [3, 4] (fun b out wr => ∃ (l : Bytes) (o c : Nat) (acc : List Int), b = .slice (some ⟨w.heap.size, o, none⟩) l.length c ∧ l.length ≤ c ∧ c ≤ maxLen ∧ At wr w.heap.size o (Lib.byteCells l) ∧
      wr.ownsRow (w.heap.size + 1) 3 1 out acc.length (I64s acc) ∧ acc ++ signs l = T ∧ acc.length + l.length ≤ 1000000 ∧ w.heap.size < wr.heap.size ∧ Below w.heap.size w wr) (fun b _ _ => lenV b)
  case atStart => exact ⟨ls s, 0, cp, [], by rw [ls_length], by rw [ls_length]; exact hcp1, hcp2, hat, ⟨by simp, .inl ⟨rfl, rfl⟩⟩, by simpa using HT.out.symm, by simpa using hs, by omega, hbw⟩
  case round =>
    obtain ⟨l, o, c, acc, rfl, hlc, hcm, hA, hown, hacc, hlen, hwz, hbel⟩ := hrel
    clear hat hbw hsz
    have HA := Lib.hid hA; clear hA
    have HO := Lib.hid hown; clear hown
    have HB := Lib.hid hbel; clear hbel
    have HC := Lib.hid hacc; clear hacc
    cases l with
    | nil =>
      simp only [List.length_nil]
      go_wp2
      go_ret
      have e := HC.out
      rw [signs_nil, List.append_nil] at e
      have ho := HO.out
      rw [e] at ho
      exact RetRow.mk ho (by omega) HB.out
    | cons x r =>
      obtain ⟨c0, n0, ok0, hN, hn1, hn2⟩ : ∃ (c0 : Int) (n0 : Nat) (ok0 : Bool), nextF (x :: r) = (c0, (n0 : Int), ok0) ∧ 1 ≤ n0 ∧ n0 ≤ r.length + 1 :=
        ⟨_, nextN (x :: r), _, by rw [← (nextF_n x r).1], (nextF_n x r).2⟩
      have hnx := fun W v B h => next_any x r v W B h
      rw [hN] at hnx
      simp only at hnx
      have HN := Lib.hid hnx; clear hnx
      have hacc2 := HC.out
      rw [signs_cons, show nextN (x :: r) = n0 by unfold nextN; rw [hN]; rfl, hN] at hacc2
      simp only at hacc2
      have HC2 := Lib.hid hacc2; clear hacc2 hN
      obtain ⟨L, hL⟩ : ∃ L, L = (x :: r).length := ⟨_, rfl⟩
      have hLr : L = r.length + 1 := hL
      rw [← hL] at hlc hlen ⊢
      have HL := Lib.hid hL; clear hL
      have hn2' : n0 ≤ L := by omega
      have hL0 : 0 < L := by omega
      have hsl : Sl (w.heap.size + 1) wr (.slice (some ⟨w.heap.size, o, none⟩) L c) (Lib.byteCells (x :: r)) :=
        ⟨c, by rw [Lib.byteCells_length, ← HL.out]; exact hlc, hcm, .inr ⟨_, o, by omega, by rw [Lib.byteCells_length, ← HL.out], HA.out⟩⟩
      have HS := Lib.hid hsl; clear hsl
      obtain ⟨o', ho', hcut⟩ := slice_from (P := Tryd.prog) Tryd.underlying36 hi8 hz81 w.heap.size o L c n0 hn2' hlc
      have HO' := Lib.hid ho'; clear ho'
      clear hLr hn2
      have hbase : ∀ w1 : World, Below wr.heap.size wr w1 → w.heap.size + 1 ≤ w1.heap.size := fun w1 h => by have := h.size; omega
      go_wp2_with (first | (go_at_call 49; refine (HN.out _ _ _ HS.out).mono ?_; rintro e w1 ⟨rfl, hb1⟩; have HB1 := Lib.hid hb1; clear hb1) | (at_builtin; go_must (refine push1 rfl (.tmp 19) (.tmp 21) _ rfl (w.heap.size + 1) 3 i0 _ 8 Tryd.underlying22 hi0 hz0 hz1 hz2 rfl _ _ acc.length (I64s acc) rfl (own_below HO.out HB1.out) (.int .i64 c0) rfl rfl (by omega) (by omega) (hbase _ HB1.out) ?_); intro v2 w2 hown2 hw2 hb2; have HO2 := Lib.hid hown2; clear hown2; have HB2 := Lib.hid hb2; clear hb2))
      go_roundw
      case rel =>
        have hb1 := HB1.out
        have hb2 := HB2.out
        have hL := HL.out
        refine ⟨(x :: r).drop n0, o', c - n0, acc ++ [c0], by rw [List.length_drop, ← hL], by rw [List.length_drop, ← hL]; omega, by omega, ?_, ?_, ?_, ?_, by have := hb1.size; omega, ?_⟩
        · exact At.from' (((HA.out).keep (hb1.block _ (by omega))).keep (hb2.block _ (by omega))) (by rw [← hL]; exact hlc) HO'.out
        · have := HO2.out
          rw [List.length_append, List.length_singleton]
          simpa [I64s] using this
        · rw [List.append_assoc]; exact HC2.out
        · rw [List.length_append, List.length_singleton, List.length_drop, ← hL]; omega
        · exact (HB.out.trans (hb1.mono (by omega))).trans (hb2.mono (by omega))
      case measure => simp [lenV]; omega
end Go.Proofs.YtledmlgebfbhaaaDoor
