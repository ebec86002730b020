/- Plain laws of puny: what was written is read. -/
import Derived.Test.YtledmlgebfbhaaaDoorPunG
import Derived.Test.YtledmlgebfbhaaaDoorPunK
namespace Go.Proofs.YtledmlgebfbhaaaDoor
section
/-! Plain laws of puny: a number that was written is read. -/
open Go.RowKit
set_option maxRecDepth 10000

theorem wrt_dig {d : Int} (h : 0 ≤ d ∧ d < 36) : wrt (dig d) = d := by
  unfold wrt dig
  by_cases h1 : d < 26
  · rw [if_pos h1, if_pos (by omega)]; omega
  · rw [if_neg h1, if_neg (by omega), if_neg (by omega), if_pos (by omega)]; omega
theorem wrt_db {d : Int} (h : 0 ≤ d ∧ d < 36) : wrt (b2 (db d)) = d := by rw [b2_db h, wrt_dig h]

theorem rdGo_digs : ∀ (f j : Nat) (d sum wt bias : Int) (rest : Bytes), 0 ≤ d → d < 2 ^ f → 1 ≤ wt → sum + d * wt ≤ 2147483647 →
    rdGo (dgGo f j d bias ++ rest) j sum wt bias = (sum + d * wt, (j : Int) + (dgGo f j d bias).length)
  | f, j, d, sum, wt, bias, rest, h0, hf, hw, hs => by
    have hb := bnd_range j bias
    by_cases hlt : d < bnd j bias
    · have hd : 0 ≤ d ∧ d < 36 := by omega
      rw [dgGo_last f j hlt]
      show rdGo (db d :: rest) j sum wt bias = _
      unfold rdGo
      simp only [wrt_db hd]
      rw [if_neg (by omega), if_neg (by omega), if_pos hlt]
      rfl
    · obtain ⟨g, rfl, hmo, hq⟩ := dgGo_more hlt hf h0
      rw [hmo]
      generalize hB : bnd j bias = b at *
      have hr : 0 ≤ (d - b) % (36 - b) ∧ (d - b) % (36 - b) < 36 - b := ⟨Int.emod_nonneg _ (by omega), Int.emod_lt_of_pos _ (by omega)⟩
      have hq0 : 0 ≤ (d - b) / (36 - b) := Int.ediv_nonneg (by omega) (by omega)
      have hc : 0 ≤ b + (d - b) % (36 - b) ∧ b + (d - b) % (36 - b) < 36 := by omega
      have hdm : (36 - b) * ((d - b) / (36 - b)) + (d - b) % (36 - b) = d - b := Int.mul_ediv_add_emod _ _
      have hdw : d * wt = (b + (d - b) % (36 - b)) * wt + (d - b) / (36 - b) * (wt * (36 - b)) := by
        have : d = (b + (d - b) % (36 - b)) + (36 - b) * ((d - b) / (36 - b)) := by omega
        conv => lhs; rw [this]
        rw [Int.add_mul, Int.mul_comm (36 - b) ((d - b) / (36 - b)), Int.mul_assoc, Int.mul_comm (36 - b) wt]
      have hpos : 0 ≤ (d - b) / (36 - b) * (wt * (36 - b)) := Int.mul_nonneg hq0 (Int.mul_nonneg (by omega) (by omega))
      have hwt : 1 ≤ wt * (36 - b) := by
        have := mul_ge (c := 36 - b) (wt := wt) (by omega) hw
        rw [Int.mul_comm] at this
        omega
      show rdGo (db (b + (d - b) % (36 - b)) :: (dgGo g (j + 1) ((d - b) / (36 - b)) bias ++ rest)) j sum wt bias = _
      unfold rdGo
      simp only [wrt_db hc, hB]
      rw [if_neg (by omega), if_neg (by omega), if_neg (by omega), rdGo_digs g (j + 1) _ _ _ bias rest hq0 hq hwt (by omega)]
      simp only [List.length_cons]
      refine Prod.ext ?_ ?_
      · show _ + _ = _; omega
      · show ((j + 1 : Nat) : Int) + _ = _; omega
/-- a number that was written is read, whatever stands behind it -/
theorem rd_digs {d bias : Int} (rest : Bytes) (h0 : 0 ≤ d) (h1 : d ≤ 2147483647) : rd (digs d bias ++ rest) bias = (d, ((digs d bias).length : Int)) := by
  have := rdGo_digs 40 0 d 0 1 bias rest h0 (by omega) (by omega) (by omega)
  unfold rd digs
  rw [this]
  refine Prod.ext ?_ ?_
  · show 0 + d * 1 = d; omega
  · show ((0 : Nat) : Int) + _ = _; omega
end
section
/-! Plain laws of puny: what stands of a row, where the text goes on. -/
open Go.RowKit
set_option maxRecDepth 10000

/-- those of l below n, and those that are n ahead of the k-th place -/
def Hk (l : List Int) (n : Int) (k : Nat) : List Int := (l.take k).filter (fun c => decide (c ≤ n)) ++ (l.drop k).filter (fun c => decide (c < n))
/-- how many of the first k are done -/
def pk (l : List Int) (n : Int) (k : Nat) : Nat := ((l.take k).filter (fun c => decide (c ≤ n))).length
theorem pk_step {l : List Int} {k : Nat} (h : k < l.length) (n : Int) : pk l n (k + 1) = pk l n k + if l[k] ≤ n then 1 else 0 := by
  unfold pk
  rw [List.take_succ_eq_append_getElem h, List.filter_append, List.length_append]
  by_cases h2 : l[k] ≤ n
  · rw [if_pos h2, List.filter_cons_of_pos (by simpa using h2)]; rfl
  · rw [if_neg h2, List.filter_cons_of_neg (by simpa using h2)]; rfl
theorem Hk_same {l : List Int} {k : Nat} (h : k < l.length) {n : Int} (hn : l[k] ≠ n) : Hk l n (k + 1) = Hk l n k := by
  unfold Hk
  rw [List.take_succ_eq_append_getElem h, List.drop_eq_getElem_cons h, List.filter_append, List.append_assoc]
  congr 1
  by_cases h2 : l[k] < n
  · rw [List.filter_cons_of_pos (by simp; omega), List.filter_cons_of_pos (by simpa using h2)]; rfl
  · rw [List.filter_cons_of_neg (by simp; omega), List.filter_cons_of_neg (by simpa using h2)]; rfl
theorem Hk_ins {l : List Int} {k : Nat} (h : k < l.length) {n : Int} (hn : l[k] = n) : Hk l n (k + 1) = (Hk l n k).take (pk l n k) ++ n :: (Hk l n k).drop (pk l n k) := by
  have e : Hk l n k = (l.take k).filter (fun c => decide (c ≤ n)) ++ (l.drop (k + 1)).filter (fun c => decide (c < n)) := by
    unfold Hk
    rw [List.drop_eq_getElem_cons h, List.filter_cons_of_neg (by simp; omega)]
  rw [e]
  unfold pk
  rw [List.take_left', List.drop_left']
  · unfold Hk
    rw [List.take_succ_eq_append_getElem h, List.filter_append, List.filter_cons_of_pos (by simp; omega), hn, List.append_assoc]
    rfl
  · rfl
  · rfl
theorem Hk_end (l : List Int) (n : Int) : Hk l n l.length = Hk l (n + 1) 0 := by
  unfold Hk
  rw [List.take_length, List.drop_length, List.take_zero, List.drop_zero]
  simp only [List.filter_nil, List.append_nil, List.nil_append]
  refine List.filter_congr fun c _ => ?_
  simp only [decide_eq_decide]
  omega
theorem Hk_next {l : List Int} {n m : Int} (hm : n ≤ m) (h : ∀ c ∈ l, n ≤ c → m ≤ c) : Hk l m 0 = Hk l n 0 := by
  unfold Hk
  rw [List.take_zero, List.drop_zero]
  congr 1
  refine List.filter_congr fun c hc => ?_
  have := h c hc
  simp only [decide_eq_decide]
  omega
theorem pk_le (l : List Int) (n : Int) (k : Nat) : pk l n k ≤ (Hk l n k).length := by unfold pk Hk; rw [List.length_append]; omega
theorem pk_end (l : List Int) (n : Int) : pk l n l.length = (Hk l n l.length).length := by
  unfold pk Hk
  rw [List.take_length, List.drop_length]
  simp
theorem Hk_all {l : List Int} {n : Int} (h : (Hk l n 0).length = l.length) : Hk l n 0 = l := by
  unfold Hk at *
  rw [List.take_zero, List.drop_zero] at *
  simp only [List.filter_nil, List.nil_append] at *
  exact List.filter_eq_self.mpr (List.length_filter_eq_length_iff.mp h)
end
section
/-! Plain laws of puny: what is written behind the signs below 128 is digits alone. -/
open Go.RowKit
set_option maxRecDepth 10000

def isDg (y : UInt8) : Prop := (97 ≤ b2 y ∧ b2 y ≤ 122) ∨ (48 ≤ b2 y ∧ b2 y ≤ 57)
theorem db_dg {d : Int} (h : 0 ≤ d ∧ d < 36) : isDg (db d) := by
  unfold isDg
  rw [b2_db h]
  unfold dig
  split <;> omega
theorem dgGo_dg : ∀ (f j : Nat) (d bias : Int), 0 ≤ d → d < 2 ^ f → ∀ y ∈ dgGo f j d bias, isDg y
  | f, j, d, bias, h0, hf => by
    have hb := bnd_range j bias
    by_cases hlt : d < bnd j bias
    · rw [dgGo_last f j hlt]
      intro y hy
      simp at hy
      subst hy
      exact db_dg (by omega)
    · obtain ⟨g, rfl, hmo, hq⟩ := dgGo_more hlt hf h0
      rw [hmo]
      have hr : 0 ≤ (d - bnd j bias) % (36 - bnd j bias) ∧ (d - bnd j bias) % (36 - bnd j bias) < 36 - bnd j bias := ⟨Int.emod_nonneg _ (by omega), Int.emod_lt_of_pos _ (by omega)⟩
      intro y hy
      rcases List.mem_cons.mp hy with rfl | hy
      · exact db_dg (by omega)
      · exact dgGo_dg g (j + 1) _ bias (Int.ediv_nonneg (by omega) (by omega)) hq y hy
theorem digs_dg {d : Int} (bias : Int) (h0 : 0 ≤ d) (h1 : d < 1099511627776) : ∀ y ∈ digs d bias, isDg y := dgGo_dg 40 0 d bias h0 (by omega)
/-- below it a number has at most k + 1 digits -/
def thr : Nat → Int
  | 0 => 26
  | k + 1 => 26 + 10 * thr k
theorem thr_ge : ∀ k, 26 ≤ thr k
  | 0 => by unfold thr; omega
  | k + 1 => by have := thr_ge k; unfold thr; omega
theorem thr_step {t d T : Int} (ht : 1 ≤ t ∧ t ≤ 26) (hT : 26 ≤ T) (hd : d < 26 + 10 * T) : (d - t) / (36 - t) < T := by
  refine Int.ediv_lt_of_lt_mul (by omega) ?_
  have h1 : T * (36 - t) = 36 * T - t * T := by rw [Int.mul_sub, Int.mul_comm T 36, Int.mul_comm T t]
  have h2 : 0 ≤ (26 - t) * (T - 1) := Int.mul_nonneg (by omega) (by omega)
  have h3 : (26 - t) * (T - 1) = 26 * T - 26 - (t * T - t) := by rw [Int.sub_mul, Int.mul_sub, Int.mul_sub]; omega
  omega
theorem dgGo_26 : ∀ (k f j : Nat) (d bias : Int), 0 ≤ d → d < 2 ^ f → d < thr k → 26 ≤ 36 * ((j : Int) + 1) - bias → (dgGo f j d bias).length ≤ k + 1
  | k, f, j, d, bias, h0, hf, hk, hj => by
    have hb := bnd_range j bias
    have hbe : bnd j bias = 26 := by unfold bnd; omega
    by_cases hlt : d < bnd j bias
    · rw [dgGo_last f j hlt]; simp
    · obtain ⟨g, rfl, hmo, hq⟩ := dgGo_more hlt hf h0
      rw [hmo, List.length_cons]
      cases k with
      | zero => unfold thr at hk; omega
      | succ k =>
        have hk2 : d < 26 + 10 * thr k := hk
        have := dgGo_26 k g (j + 1) _ bias (Int.ediv_nonneg (by omega) (by omega)) hq (thr_step hb (thr_ge k) hk2) (by omega)
        omega
def thA : Nat → Int
  | 0 => 1
  | k + 1 => min (1 + 35 * thA k) (thr (k + 1))
theorem dgGo_thA : ∀ (k f j : Nat) (d bias : Int), 0 ≤ d → d < 2 ^ f → d < thA k → (dgGo f j d bias).length ≤ k + 1
  | k, f, j, d, bias, h0, hf, hk => by
    have hb := bnd_range j bias
    by_cases hlt : d < bnd j bias
    · rw [dgGo_last f j hlt]; simp
    · obtain ⟨g, rfl, hmo, hq⟩ := dgGo_more hlt hf h0
      rw [hmo, List.length_cons]
      cases k with
      | zero => unfold thA at hk; omega
      | succ k =>
        have hk1 : d < min (1 + 35 * thA k) (thr (k + 1)) := hk
        have hk2 : d < 26 + 10 * thr k := by have : thr (k + 1) = 26 + 10 * thr k := rfl
                                             omega
        have hn : 0 ≤ (d - bnd j bias) / (36 - bnd j bias) := Int.ediv_nonneg (by omega) (by omega)
        by_cases hc : 36 * ((j : Int) + 1) - bias ≤ 1
        · have hbe : bnd j bias = 1 := by unfold bnd; omega
          have := dgGo_thA k g (j + 1) ((d - bnd j bias) / (36 - bnd j bias)) bias hn hq (by rw [hbe]; omega)
          omega
        · have := dgGo_26 k g (j + 1) _ bias hn hq (thr_step hb (thr_ge k) hk2) (by omega)
          omega
theorem digs_len8 {d : Int} (bias : Int) (h0 : 0 ≤ d) (h1 : d < 288888886) : (digs d bias).length ≤ 8 := by
  have h : thA 7 = 288888886 := by decide +kernel
  exact dgGo_thA 7 40 0 d bias h0 (by omega) (by omega)
theorem hyphen_dg : ¬ isDg 45 := by unfold isDg b2; simp
end
section
/-! Plain laws of puny: what is read of one number that was written. -/
open Go.RowKit
set_option maxRecDepth 10000

theorem dec_one {f : Nat} {d bias p0 n0 n : Int} {first : Bool} {l : List Int} {pos : Nat} (rest : Bytes) (h0 : 0 ≤ d) (h1 : d ≤ 2147483647) (hp : p0 + d = (n - n0) * (l.length + 1) + pos) (hpos : pos ≤ l.length) (hl : l.length < 255) (hn : sg n = true) :
    decGo (f + 1) (digs d bias ++ rest) l p0 n0 bias first = decGo f rest (l.take pos ++ n :: l.drop pos) (pos + 1) n (nb d (l.length + 1) first) false := by
  have hd := (digs_len d bias).1
  rw [decGo_more f (by rw [List.length_append]; omega), rd_digs rest h0 h1]
  have hq : (p0 + d) / ((l.length : Int) + 1) = n - n0 := by
    rw [hp, Int.add_comm, Int.add_mul_ediv_right _ _ (by omega), Int.ediv_eq_zero_of_lt (by omega) (by omega)]
    omega
  have hr : (p0 + d) % ((l.length : Int) + 1) = pos := by
    rw [hp, Int.add_comm, Int.add_mul_emod_self_right]
    exact Int.emod_eq_of_lt (by omega) (by omega)
  simp only [hq, hr, Int.toNat_natCast]
  rw [show n0 + (n - n0) = n by omega, if_neg (by omega), if_neg (by rw [hn]; simp; omega), List.drop_left]

theorem decGo_same : ∀ (f g : Nat) (s : Bytes) (l : List Int) (p n bias : Int) (first : Bool), s.length ≤ f → s.length ≤ g → decGo f s l p n bias first = decGo g s l p n bias first
  | 0, g, s, l, p, n, bias, first, h, _ => by rw [decGo_end 0 (by omega), decGo_end g (by omega)]
  | f + 1, 0, s, l, p, n, bias, first, _, h => by rw [decGo_end (f + 1) (by omega), decGo_end 0 (by omega)]
  | f + 1, g + 1, s, l, p, n, bias, first, h, h' => by
    by_cases h0 : s.length = 0
    · rw [decGo_end _ h0, decGo_end _ h0]
    · rw [decGo_more f h0, decGo_more g h0]
      have hr := rd_range s bias
      by_cases hk : (rd s bias).2 = 0
      · rw [if_pos hk, if_pos hk]
      · rw [if_neg hk, if_neg hk]
        rw [decGo_same f g _ _ _ _ _ _ (by rw [List.length_drop]; omega) (by rw [List.length_drop]; omega)]
/-- what is read of a text -/
def decA (s : Bytes) (l : List Int) (p n bias : Int) (first : Bool) : Option (List Int) := decGo s.length s l p n bias first
theorem decA_of {f : Nat} {s : Bytes} {l : List Int} {p n bias : Int} {first : Bool} (h : s.length ≤ f) : decGo f s l p n bias first = decA s l p n bias first := decGo_same _ _ _ _ _ _ _ _ h (Nat.le_refl _)
theorem decA_one {d bias p0 n0 n : Int} {first : Bool} {l : List Int} {pos : Nat} (rest : Bytes) (h0 : 0 ≤ d) (h1 : d ≤ 2147483647) (hp : p0 + d = (n - n0) * (l.length + 1) + pos) (hpos : pos ≤ l.length) (hl : l.length < 255) (hn : sg n = true) :
    decA (digs d bias ++ rest) l p0 n0 bias first = decA rest (l.take pos ++ n :: l.drop pos) (pos + 1) n (nb d (l.length + 1) first) false := by
  have hd := (digs_len d bias).1
  rw [← decA_of (f := (digs d bias ++ rest).length + 1) (by omega), dec_one rest h0 h1 hp hpos hl hn, decA_of (by rw [List.length_append]; omega)]
end
section
/-! Plain laws of puny: one sign's way over the row is read as it was written. -/
open Go.RowKit
set_option maxRecDepth 10000

theorem Hk_le (l : List Int) (n : Int) (k : Nat) : (Hk l n k).length ≤ l.length := by
  unfold Hk
  have h1 := List.length_filter_le (fun c => decide (c ≤ n)) (l.take k)
  have h2 := List.length_filter_le (fun c => decide (c < n)) (l.drop k)
  have h3 : (l.take k).length + (l.drop k).length = l.length := by rw [← List.length_append, List.take_append_drop]
  rw [List.length_append]
  omega
theorem dec_row (l : List Int) (n : Int) (hn : sg n = true) (hll : l.length ≤ 255) : ∀ (q k : Nat) (s : En) (p0 n0 : Int), k + q = l.length → 0 ≤ n0 → n0 ≤ n → 0 ≤ p0 → s.d = (n - n0) * (s.done + 1) + pk l n k - p0 → s.done = (Hk l n k).length → 0 ≤ s.d →
    ∃ (W : Bytes) (p1 n1 : Int), (rowGo n (l.drop k) s).out = s.out ++ W ∧
      (∀ rest, decA (W ++ rest) (Hk l n k) p0 n0 s.bias s.first = decA rest (Hk l n l.length) p1 n1 (rowGo n (l.drop k) s).bias (rowGo n (l.drop k) s).first) ∧
      0 ≤ n1 ∧ n1 ≤ n ∧ 0 ≤ p1 ∧ (rowGo n (l.drop k) s).d = (n - n1) * ((rowGo n (l.drop k) s).done + 1) + pk l n l.length - p1 ∧ (rowGo n (l.drop k) s).done = (Hk l n l.length).length ∧ 0 ≤ (rowGo n (l.drop k) s).d ∧ (∀ y ∈ W, isDg y) ∧ (W.length : Int) ≤ 8 * ((rowGo n (l.drop k) s).done - s.done)
  | 0, k, s, p0, n0, hk, hn0, hnn, hp0, hd, hdn, h0 => by
    obtain rfl : k = l.length := by omega
    rw [List.drop_length]
    exact ⟨[], p0, n0, by show s.out = _; simp, fun rest => rfl, hn0, hnn, hp0, hd, hdn, h0, by simp, by show (0 : Int) ≤ 8 * (s.done - s.done); omega⟩
  | q + 1, k, s, p0, n0, hk, hn0, hnn, hp0, hd, hdn, h0 => by
    have hx : k < l.length := by omega
    have hps := pk_step hx n
    have hpl := pk_le l n k
    have hnr := sg_iff.mp hn
    rw [rowGo_step hx]
    obtain ⟨o, d, dn, bi, fi⟩ := s
    simp only at hd hdn h0 ⊢
    have hcs : l[k] < n ∨ l[k] = n ∨ n < l[k] := by omega
    rcases hcs with hc | hc | hc
    · rw [row_less hc]
      rw [if_pos (by omega)] at hps
      obtain ⟨W, p1, n1, h1, h2, h3, h4, h5, h6, h7, h8, h9, h10⟩ := dec_row l n hn hll q (k + 1) ⟨o, d + 1, dn, bi, fi⟩ p0 n0 (by omega) hn0 hnn hp0 (by simp only; omega) (by simp only; rw [Hk_same hx (by omega)]; exact hdn) (by simp only; omega)
      refine ⟨W, p1, n1, h1, fun rest => ?_, h3, h4, h5, h6, h7, h8, h9, h10⟩
      rw [← h2 rest, Hk_same hx (by omega)]
    · rw [row_one hc]
      rw [if_pos (by omega)] at hps
      have hins := Hk_ins hx hc
      have hlen : (Hk l n (k + 1)).length = (Hk l n k).length + 1 := by rw [hins, List.length_append, List.length_take, List.length_cons, List.length_drop]; omega
      have hle := Hk_le l n (k + 1)
      have hmul := mul_bd2 (a := n - n0) (b := dn + 1) (by omega) (by omega)
      obtain ⟨W, p1, n1, h1, h2, h3, h4, h5, h6, h7, h8, h9, h10⟩ := dec_row l n hn hll q (k + 1) ⟨o ++ digs d bi, 0, dn + 1, nb d (dn + 1) fi, false⟩ (pk l n k + 1) n (by omega) (by omega) (Int.le_refl _) (by omega) (by simp only; rw [Int.sub_self, Int.zero_mul]; omega) (by simp only; omega) (Int.le_refl _)
      refine ⟨digs d bi ++ W, p1, n1, by rw [h1]; simp only; rw [List.append_assoc], fun rest => ?_, h3, h4, h5, h6, h7, h8, fun y hy => (List.mem_append.mp hy).elim (digs_dg bi h0 (by omega) y) (h9 y), by have := digs_len8 bi h0 (by omega); rw [List.length_append]; simp only at h10; omega⟩
      rw [← h2 rest, List.append_assoc, decA_one (pos := pk l n k) (n := n) (W ++ rest) h0 (by omega) (by rw [← hdn]; omega) hpl (by omega) hn, hins, ← hdn]
    · rw [row_more hc]
      rw [if_neg (by omega)] at hps
      obtain ⟨W, p1, n1, h1, h2, h3, h4, h5, h6, h7, h8, h9, h10⟩ := dec_row l n hn hll q (k + 1) ⟨o, d, dn, bi, fi⟩ p0 n0 (by omega) hn0 hnn hp0 (by simp only; omega) (by simp only; rw [Hk_same hx (by omega)]; exact hdn) (by simp only; omega)
      refine ⟨W, p1, n1, h1, fun rest => ?_, h3, h4, h5, h6, h7, h8, h9, h10⟩
      rw [← h2 rest, Hk_same hx (by omega)]
end
section
/-! Plain laws of puny: what was written of a row is read as the row. -/
open Go.RowKit
set_option maxRecDepth 10000

theorem Hk_cnt (l : List Int) (n : Int) : (Hk l n 0).length = cnt l n := by unfold Hk cnt; rw [List.take_zero, List.drop_zero]; rfl
theorem dec_enc (l : List Int) (hall : ∀ c ∈ l, sg c = true) (hll : l.length ≤ 255) : ∀ (f : Nat) (sign : Int) (s : En) (p0 n0 : Int), 0 ≤ n0 → n0 ≤ sign → 0 ≤ p0 → s.d = (sign - n0) * (s.done + 1) - p0 → s.done = (Hk l sign 0).length → 0 ≤ s.d → (l.length : Int) - s.done ≤ f →
    ∃ W : Bytes, encGo f l sign s = s.out ++ W ∧ decA W (Hk l sign 0) p0 n0 s.bias s.first = some l ∧ (∀ y ∈ W, isDg y) ∧ (W.length : Int) ≤ 8 * (l.length - s.done)
  | f, sign, s, p0, n0, hn0, hns, hp0, hd, hdn, h0, hf => by
    by_cases hlt : s.done < l.length
    · cases f with
      | zero => omega
      | succ g =>
        obtain ⟨o, d, dn, bi, fi⟩ := s
        simp only at hd hdn h0 hf hlt ⊢
        have hex := cnt_lt (l := l) (sign := sign) (by rw [← Hk_cnt]; omega)
        obtain ⟨hm1, hm2, hm3⟩ := lsF_least (by omega) hex
        rw [encGo_more g hlt]
        generalize lsF l sign (-1) = m at *
        have hnx := Hk_next hm2 hm3
        have hpk0 : pk l m 0 = 0 := by unfold pk; rw [List.take_zero]; rfl
        have hmul : (m - n0) * (dn + 1) = (m - sign) * (dn + 1) + (sign - n0) * (dn + 1) := by rw [← Int.add_mul]; congr 1; omega
        have hpos : 0 ≤ (m - sign) * (dn + 1) := Int.mul_nonneg (by omega) (by omega)
        obtain ⟨W, p1, n1, h1, h2, h3, h4, h5, h6, h7, h8, h9, h10⟩ := dec_row l m (hall m hm1) hll l.length 0 ⟨o, d + (m - sign) * (dn + 1), dn, bi, fi⟩ p0 n0 (by omega) hn0 (by omega) hp0 (by simp only; rw [hpk0, hmul]; omega) (by simp only; rw [hnx]; exact hdn) (by simp only; omega)
        rw [List.drop_zero] at h1 h2 h6 h7 h8 h10
        generalize rowGo m l ⟨o, d + (m - sign) * (dn + 1), dn, bi, fi⟩ = t at *
        have he := Hk_end l m
        have hpe := pk_end l m
        rw [he] at h2 h7 hpe
        have hgrow : (Hk l (m + 1) 0).length = cnt l m + eqs l m := by rw [Hk_cnt, cnt_succ]
        have heq := eqs_pos hm1
        have hold : dn = cnt l m := by rw [hdn, ← hnx, Hk_cnt]
        have hmul2 : (m + 1 - n1) * (t.done + 1) = (m - n1) * (t.done + 1) + (t.done + 1) := by
          rw [show m + 1 - n1 = (m - n1) + 1 by omega, Int.add_mul, Int.one_mul]
        obtain ⟨W2, e1, e2, e3, e4⟩ := dec_enc l hall hll g (m + 1) ⟨t.out, t.d + 1, t.done, t.bias, t.first⟩ p1 n1 h3 (by omega) h5 (by simp only; rw [hmul2]; omega) (by simp only; exact h7) (by simp only; omega) (by simp only; omega)
        refine ⟨W ++ W2, ?_, ?_, fun y hy => (List.mem_append.mp hy).elim (h9 y) (e3 y), by rw [List.length_append]; simp only at h10 e4; omega⟩
        · rw [e1, h1, List.append_assoc]
        · rw [← hnx, h2 W2]
          exact e2
    · rw [encGo_done f hlt]
      have hle := Hk_le l sign 0
      refine ⟨[], by simp, ?_, by simp, by simp only [List.length_nil]; have h2 := Hk_le l sign 0; omega⟩
      rw [Hk_all (by omega)]
      rfl
end
section
/-! Plain laws of puny: where the last hyphen stands in what was written. -/
open Go.RowKit
set_option maxRecDepth 10000

theorem byte_at (s : Bytes) (j : Nat) (h : j < s.length) : (((bs s).data[j]!).toNat : Int) = b2 s[j] := by
  unfold b2 bs
  simp [h]
theorem hyAt_none {s : Bytes} (h : ∀ y ∈ s, isDg y) : hyAt s = -1 := by
  unfold hyAt Lib.lastIndexByte
  rcases Lib.lastIdx_spec (bs s) 45 (bs s).size with ⟨h1, _⟩ | ⟨i, h1, _, h3, _⟩
  · exact h1
  · rw [bs_size] at h1
    rw [byte_at s i h1] at h3
    have := h s[i] (List.getElem_mem h1)
    unfold isDg at this
    omega
theorem hyAt_some {B W : Bytes} (h : ∀ y ∈ W, isDg y) : hyAt (B ++ 45 :: W) = B.length := by
  unfold hyAt Lib.lastIndexByte
  have hl : (B ++ 45 :: W).length = B.length + 1 + W.length := by rw [List.length_append, List.length_cons]; omega
  have h45 : (((bs (B ++ 45 :: W)).data[B.length]!).toNat : Int) = 45 := by
    rw [byte_at _ _ (by omega)]
    simp [b2]
  rcases Lib.lastIdx_spec (bs (B ++ 45 :: W)) 45 (bs (B ++ 45 :: W)).size with ⟨_, h2⟩ | ⟨i, h1, h2, h3, h4⟩
  · exact absurd h45 (h2 B.length (by rw [bs_size]; omega))
  · rw [h2]
    rw [bs_size] at h1 h4
    have hcs : i < B.length ∨ i = B.length ∨ B.length < i := by omega
    rcases hcs with hc | hc | hc
    · exact absurd h45 (h4 B.length hc (by omega))
    · rw [hc]
    · exfalso
      rw [byte_at _ i h1] at h3
      obtain ⟨q, rfl⟩ : ∃ q, i = B.length + 1 + q := ⟨i - B.length - 1, by omega⟩
      have hq : q < W.length := by omega
      have e : (B ++ 45 :: W)[B.length + 1 + q] = W[q] := by
        rw [List.getElem_append_right (by omega)]
        simp [show B.length + 1 + q - B.length = q + 1 by omega]
      rw [e] at h3
      have := h W[q] (List.getElem_mem hq)
      unfold isDg at this
      omega
end
section
/-! Plain laws of puny: what was written is read. -/
open Go.RowKit
set_option maxRecDepth 10000

theorem bas_map {l : List Int} (hall : ∀ c ∈ l, sg c = true) : (bas l).map b2 = Hk l 128 0 := by
  unfold bas Hk
  rw [List.take_zero, List.drop_zero, List.map_map]
  simp only [List.filter_nil, List.nil_append]
  conv => rhs; rw [← List.map_id (l.filter fun c => decide (c < 128))]
  refine List.map_congr_left fun c hc => ?_
  have h1 := List.mem_filter.mp hc
  have h2 := (sg_iff.mp (hall c h1.1)).1
  have h3 := of_decide_eq_true h1.2
  exact b2_of (by omega)
/-- what is written: the signs below 128, a hyphen behind them, and digits -/
theorem encF_parts {l : List Int} (hall : ∀ c ∈ l, sg c = true) (hll : l.length ≤ 255) : ∃ W : Bytes, encF l = bas l ++ hyp (bas l) ++ W ∧ (∀ y ∈ W, isDg y) ∧ (W.length : Int) ≤ 8 * (l.length - (bas l).length) ∧ (W.length = 0 → (bas l).length = l.length) := by
  have hbl := bas_len l
  have hbe := bas_le l
  obtain ⟨W, e1, e2, e3, e4⟩ := dec_enc l hall hll l.length 128 ⟨bas l ++ hyp (bas l), 0, (bas l).length, 72, true⟩ 0 128 (by omega) (by omega) (by omega) (by simp) (by simp only; rw [Hk_cnt, hbl]) (by simp) (by simp only; omega)
  refine ⟨W, e1, e3, e4, fun h0 => ?_⟩
  obtain rfl : W = [] := List.eq_nil_of_length_eq_zero h0
  have h2 : some (Hk l 128 0) = some l := e2
  rw [← congrArg List.length (Option.some.inj h2), Hk_cnt, hbl]
theorem encF_len {l : List Int} (hall : ∀ c ∈ l, sg c = true) (hll : l.length ≤ 255) : (encF l).length ≤ 3000 := by
  obtain ⟨W, e, _, h, _⟩ := encF_parts hall hll
  have hbe := bas_le l
  have hh : (hyp (bas l)).length ≤ 1 := by unfold hyp; split <;> simp
  rw [e, List.length_append, List.length_append]
  omega
theorem dec_of_enc {l : List Int} (hall : ∀ c ∈ l, sg c = true) (hll : l.length ≤ 255) : decF (encF l) = some l := by
  have hm := bas_map hall
  have hbl := bas_len l
  have hbe := bas_le l
  obtain ⟨W, e1, e2, e3, _⟩ := dec_enc l hall hll l.length 128 ⟨bas l ++ hyp (bas l), 0, (bas l).length, 72, true⟩ 0 128 (by omega) (by omega) (by omega) (by simp) (by simp only; rw [Hk_cnt, hbl]) (by simp) (by simp only; omega)
  have he : encF l = bas l ++ hyp (bas l) ++ W := e1
  rw [he]
  simp only at e2
  rw [← hm] at e2
  by_cases h0 : (bas l).length = 0
  · have hb : bas l = [] := List.eq_nil_of_length_eq_zero h0
    rw [hb] at e2 ⊢
    have hs : ([] : Bytes) ++ hyp [] ++ W = W := rfl
    rw [hs]
    unfold decF
    rw [hyAt_none e3, if_neg (by omega)]
    exact e2
  · have hs : bas l ++ hyp (bas l) ++ W = bas l ++ 45 :: W := by unfold hyp; rw [if_neg h0, List.append_assoc]; rfl
    rw [hs]
    unfold decF
    rw [hyAt_some e3, if_pos (by omega), if_neg (by omega), Int.toNat_natCast, List.take_left, if_pos, decA_of]
    · rw [show (bas l ++ 45 :: W).drop ((bas l).length + 1) = W by rw [← List.drop_drop, List.drop_left]; rfl]
      exact e2
    · rw [List.length_drop]; omega
    · refine List.all_eq_true.mpr fun y hy => decide_eq_true ?_
      have h1 : b2 y ∈ (bas l).map b2 := List.mem_map_of_mem hy
      rw [hm] at h1
      unfold Hk at h1
      rw [List.take_zero, List.drop_zero] at h1
      simp at h1
      exact h1.2
end
end Go.Proofs.YtledmlgebfbhaaaDoor
