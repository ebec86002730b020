/- Plain laws of puny: what was written of a row is read as the row. -/
import Derived.Test.YtledmlgebfbhaaaDoorPunT
namespace Go.Proofs.YtledmlgebfbhaaaDoor
open Go.RowKit
set_option maxRecDepth 10000

theorem Hk_cnt (l : List Int) (n : Int) : (Hk l n 0).length = cnt l n := by unfold Hk cnt; rw [List.take_zero, List.drop_zero]; rfl
theorem dec_enc (l : List Int) (hall : ∀ c ∈ l, sg c = true) (hll : l.length ≤ 255) : ∀ (f : Nat) (sign : Int) (s : En) (p0 n0 : Int), 0 ≤ n0 → n0 ≤ sign → 0 ≤ p0 → s.d = (sign - n0) * (s.done + 1) - p0 → s.done = (Hk l sign 0).length → 0 ≤ s.d → (l.length : Int) - s.done ≤ f →
    ∃ W : Bytes, encGo f l sign s = s.out ++ W ∧ decA W (Hk l sign 0) p0 n0 s.bias s.first = some l ∧ (∀ y ∈ W, isDg y) ∧ (W.length : Int) ≤ 8 * (l.length - s.done)
  | f, sign, s, p0, n0, hn0, hns, hp0, hd, hdn, h0, hf => by
    by_cases hlt : s.done < l.length
    · cases f with
      | zero => omega
      | succ g =>
        obtain ⟨o, d, dn, bi, fi⟩ := s
        simp only at hd hdn h0 hf hlt ⊢
        have hex := cnt_lt (l := l) (sign := sign) (by rw [← Hk_cnt]; omega)
        obtain ⟨hm1, hm2, hm3⟩ := lsF_least (by omega) hex
        rw [encGo_more g hlt]
        generalize lsF l sign (-1) = m at *
        have hnx := Hk_next hm2 hm3
        have hpk0 : pk l m 0 = 0 := by unfold pk; rw [List.take_zero]; rfl
        have hmul : (m - n0) * (dn + 1) = (m - sign) * (dn + 1) + (sign - n0) * (dn + 1) := by rw [← Int.add_mul]; congr 1; omega
        have hpos : 0 ≤ (m - sign) * (dn + 1) := Int.mul_nonneg (by omega) (by omega)
        obtain ⟨W, p1, n1, h1, h2, h3, h4, h5, h6, h7, h8, h9, h10⟩ := dec_row l m (hall m hm1) hll l.length 0 ⟨o, d + (m - sign) * (dn + 1), dn, bi, fi⟩ p0 n0 (by omega) hn0 (by omega) hp0 (by simp only; rw [hpk0, hmul]; omega) (by simp only; rw [hnx]; exact hdn) (by simp only; omega)
        rw [List.drop_zero] at h1 h2 h6 h7 h8 h10
        generalize rowGo m l ⟨o, d + (m - sign) * (dn + 1), dn, bi, fi⟩ = t at *
        have he := Hk_end l m
        have hpe := pk_end l m
        rw [he] at h2 h7 hpe
        have hgrow : (Hk l (m + 1) 0).length = cnt l m + eqs l m := by rw [Hk_cnt, cnt_succ]
        have heq := eqs_pos hm1
        have hold : dn = cnt l m := by rw [hdn, ← hnx, Hk_cnt]
        have hmul2 : (m + 1 - n1) * (t.done + 1) = (m - n1) * (t.done + 1) + (t.done + 1) := by
          rw [show m + 1 - n1 = (m - n1) + 1 by omega, Int.add_mul, Int.one_mul]
        obtain ⟨W2, e1, e2, e3, e4⟩ := dec_enc l hall hll g (m + 1) ⟨t.out, t.d + 1, t.done, t.bias, t.first⟩ p1 n1 h3 (by omega) h5 (by simp only; rw [hmul2]; omega) (by simp only; exact h7) (by simp only; omega) (by simp only; omega)
        refine ⟨W ++ W2, ?_, ?_, fun y hy => (List.mem_append.mp hy).elim (h9 y) (e3 y), by rw [List.length_append]; simp only at h10 e4; omega⟩
        · rw [e1, h1, List.append_assoc]
        · rw [← hnx, h2 W2]
          exact e2
    · rw [encGo_done f hlt]
      have hle := Hk_le l sign 0
      refine ⟨[], by simp, ?_, by simp, by simp only [List.length_nil]; have h2 := Hk_le l sign 0; omega⟩
      rw [Hk_all (by omega)]
      rfl
end Go.Proofs.YtledmlgebfbhaaaDoor
