/- Plain laws of puny: one sign's way over the row is read as it was written. -/
import Derived.Test.YtledmlgebfbhaaaDoorPunR
import Derived.Test.YtledmlgebfbhaaaDoorPunV
namespace Go.Proofs.YtledmlgebfbhaaaDoor
open Go.RowKit
set_option maxRecDepth 10000

theorem Hk_le (l : List Int) (n : Int) (k : Nat) : (Hk l n k).length ≤ l.length := by
  unfold Hk
  have h1 := List.length_filter_le (fun c => decide (c ≤ n)) (l.take k)
  have h2 := List.length_filter_le (fun c => decide (c < n)) (l.drop k)
  have h3 : (l.take k).length + (l.drop k).length = l.length := by rw [← List.length_append, List.take_append_drop]
  rw [List.length_append]
  omega
theorem dec_row (l : List Int) (n : Int) (hn : sg n = true) (hll : l.length ≤ 255) : ∀ (q k : Nat) (s : En) (p0 n0 : Int), k + q = l.length → 0 ≤ n0 → n0 ≤ n → 0 ≤ p0 → s.d = (n - n0) * (s.done + 1) + pk l n k - p0 → s.done = (Hk l n k).length → 0 ≤ s.d →
    ∃ (W : Bytes) (p1 n1 : Int), (rowGo n (l.drop k) s).out = s.out ++ W ∧
      (∀ rest, decA (W ++ rest) (Hk l n k) p0 n0 s.bias s.first = decA rest (Hk l n l.length) p1 n1 (rowGo n (l.drop k) s).bias (rowGo n (l.drop k) s).first) ∧
      0 ≤ n1 ∧ n1 ≤ n ∧ 0 ≤ p1 ∧ (rowGo n (l.drop k) s).d = (n - n1) * ((rowGo n (l.drop k) s).done + 1) + pk l n l.length - p1 ∧ (rowGo n (l.drop k) s).done = (Hk l n l.length).length ∧ 0 ≤ (rowGo n (l.drop k) s).d ∧ (∀ y ∈ W, isDg y) ∧ (W.length : Int) ≤ 8 * ((rowGo n (l.drop k) s).done - s.done)
  | 0, k, s, p0, n0, hk, hn0, hnn, hp0, hd, hdn, h0 => by
    obtain rfl : k = l.length := by omega
    rw [List.drop_length]
    exact ⟨[], p0, n0, by show s.out = _; simp, fun rest => rfl, hn0, hnn, hp0, hd, hdn, h0, by simp, by show (0 : Int) ≤ 8 * (s.done - s.done); omega⟩
  | q + 1, k, s, p0, n0, hk, hn0, hnn, hp0, hd, hdn, h0 => by
    have hx : k < l.length := by omega
    have hps := pk_step hx n
    have hpl := pk_le l n k
    have hnr := sg_iff.mp hn
    rw [rowGo_step hx]
    obtain ⟨o, d, dn, bi, fi⟩ := s
    simp only at hd hdn h0 ⊢
    have hcs : l[k] < n ∨ l[k] = n ∨ n < l[k] := by omega
    rcases hcs with hc | hc | hc
    · rw [row_less hc]
      rw [if_pos (by omega)] at hps
      obtain ⟨W, p1, n1, h1, h2, h3, h4, h5, h6, h7, h8, h9, h10⟩ := dec_row l n hn hll q (k + 1) ⟨o, d + 1, dn, bi, fi⟩ p0 n0 (by omega) hn0 hnn hp0 (by simp only; omega) (by simp only; rw [Hk_same hx (by omega)]; exact hdn) (by simp only; omega)
      refine ⟨W, p1, n1, h1, fun rest => ?_, h3, h4, h5, h6, h7, h8, h9, h10⟩
      rw [← h2 rest, Hk_same hx (by omega)]
    · rw [row_one hc]
      rw [if_pos (by omega)] at hps
      have hins := Hk_ins hx hc
      have hlen : (Hk l n (k + 1)).length = (Hk l n k).length + 1 := by rw [hins, List.length_append, List.length_take, List.length_cons, List.length_drop]; omega
      have hle := Hk_le l n (k + 1)
      have hmul := mul_bd2 (a := n - n0) (b := dn + 1) (by omega) (by omega)
      obtain ⟨W, p1, n1, h1, h2, h3, h4, h5, h6, h7, h8, h9, h10⟩ := dec_row l n hn hll q (k + 1) ⟨o ++ digs d bi, 0, dn + 1, nb d (dn + 1) fi, false⟩ (pk l n k + 1) n (by omega) (by omega) (Int.le_refl _) (by omega) (by simp only; rw [Int.sub_self, Int.zero_mul]; omega) (by simp only; omega) (Int.le_refl _)
      refine ⟨digs d bi ++ W, p1, n1, by rw [h1]; simp only; rw [List.append_assoc], fun rest => ?_, h3, h4, h5, h6, h7, h8, fun y hy => (List.mem_append.mp hy).elim (digs_dg bi h0 (by omega) y) (h9 y), by have := digs_len8 bi h0 (by omega); rw [List.length_append]; simp only at h10; omega⟩
      rw [← h2 rest, List.append_assoc, decA_one (pos := pk l n k) (n := n) (W ++ rest) h0 (by omega) (by rw [← hdn]; omega) hpl (by omega) hn, hins, ← hdn]
    · rw [row_more hc]
      rw [if_neg (by omega)] at hps
      obtain ⟨W, p1, n1, h1, h2, h3, h4, h5, h6, h7, h8, h9, h10⟩ := dec_row l n hn hll q (k + 1) ⟨o, d, dn, bi, fi⟩ p0 n0 (by omega) hn0 hnn hp0 (by simp only; omega) (by simp only; rw [Hk_same hx (by omega)]; exact hdn) (by simp only; omega)
      refine ⟨W, p1, n1, h1, fun rest => ?_, h3, h4, h5, h6, h7, h8, h9, h10⟩
      rw [← h2 rest, Hk_same hx (by omega)]
end Go.Proofs.YtledmlgebfbhaaaDoor
