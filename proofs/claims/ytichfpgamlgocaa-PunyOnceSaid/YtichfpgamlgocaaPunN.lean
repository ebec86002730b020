/- Plain laws of puny: there is one text of a row, but for large letters. -/
import Derived.Test.YtichfpgamlgocaaPunM
namespace Go.Proofs.Ytichfpgamlgocaa
open Go.RowKit

theorem no_less {l X Y : List Int} {p n q m q' m' : Int} (hF : Fit X p n) (hq : 0 ≤ q) (hql : q ≤ X.length) (hm : n < m ∨ n = m ∧ p ≤ q) (hql' : q' ≤ X.length)
    (i1 : (l.filter (fun c => decide (c ≤ m))).take (q + 1).toNat = (X.take q.toNat ++ m :: X.drop q.toNat).take (q + 1).toNat)
    (hY : Y = X.take q'.toNat ++ m' :: X.drop q'.toNat) (j1 : (l.filter (fun c => decide (c ≤ m'))).take (q' + 1).toNat = Y.take (q' + 1).toNat)
    (j2 : ∀ a < m', l.filter (fun c => decide (c ≤ a)) = Y.filter (fun c => decide (c ≤ a))) : ¬ (m < m' ∨ m = m' ∧ q < q') := by
  intro hc
  have ht : (X.take q.toNat).length = q.toNat := by rw [List.length_take]; omega
  have e1 : (X.take q.toNat ++ m :: X.drop q.toNat).take (q + 1).toNat = X.take q.toNat ++ [m] := by
    rw [show (q + 1).toNat = (X.take q.toNat).length + 1 by rw [ht]; omega, List.take_length_add_append]; rfl
  have e2 : (l.filter (fun c => decide (c ≤ m))).take (q + 1).toNat = X.take (q + 1).toNat := by
    rcases hc with hc | ⟨rfl, hc⟩
    · have hf : Y.filter (fun c => decide (c ≤ m)) = X := by
        rw [hY, List.filter_append, List.filter_cons_of_neg (by simp; omega), ← List.filter_append, List.take_append_drop]
        exact List.filter_eq_self.mpr fun c hx => decide_eq_true (by have := hF.1 c hx; omega)
      rw [j2 m hc, hf]
    · have e := congrArg (List.take (q + 1).toNat) j1
      rw [List.take_take, List.take_take, Nat.min_eq_left (by omega), hY, List.take_append_of_le_length (by rw [List.length_take]; omega), List.take_take, Nat.min_eq_left (by omega)] at e
      exact e
  rw [e1, e2] at i1
  have hl := congrArg List.length i1
  rw [List.length_take, List.length_append, ht, List.length_singleton] at hl
  have hx : q.toNat < X.length := by omega
  rw [show (q + 1).toNat = q.toNat + 1 by omega, List.take_succ_eq_append_getElem hx] at i1
  have hv : X[q.toNat] = m := by
    have := List.append_cancel_left i1
    simpa using this
  rcases hm with hm | ⟨rfl, hm⟩
  · have := hF.1 _ (List.getElem_mem hx); omega
  · have hmem : X[q.toNat] ∈ X.drop p.toNat := by
      refine List.mem_of_getElem? (i := q.toNat - p.toNat) ?_
      rw [List.getElem?_drop, show p.toNat + (q.toNat - p.toNat) = q.toNat by omega]
      exact List.getElem?_eq_getElem hx
    have := hF.2 _ hmem; omega
theorem decA_nil {s : Bytes} {X : List Int} {p n b : Int} {f : Bool} (hs : s.length = 0) : decA s X p n b f = some X := by
  rw [← decA_of (f := s.length) (Nat.le_refl _), decGo_end _ hs]
theorem decA_uniq (l : List Int) : ∀ (k : Nat) (s t : Bytes) (X : List Int) (p n b : Int) (f : Bool), s.length ≤ k → decA s X p n b f = some l → decA t X p n b f = some l → 0 ≤ p → p ≤ X.length → Fit X p n → s.map lowB = t.map lowB
  | k, s, t, X, p, n, b, f, hk, h, h', hp, hpl, hF => by
    by_cases hs : s.length = 0
    · rw [decA_nil hs] at h
      obtain rfl := Option.some.inj h
      have hk4 := (decA_keeps X t.length t X p n b f (Nat.le_refl _) h' hp hpl hF).2.2.2
      by_cases ht : t.length = 0
      · rw [List.eq_nil_of_length_eq_zero hs, List.eq_nil_of_length_eq_zero ht]
      · exact absurd (hk4 ht) (by omega)
    · by_cases ht : t.length = 0
      · rw [decA_nil ht] at h'
        obtain rfl := Option.some.inj h'
        exact absurd ((decA_keeps X s.length s X p n b f (Nat.le_refl _) h hp hpl hF).2.2.2 hs) (by omega)
      · obtain ⟨h1, h2, h3, h4, h5, h6, h7⟩ := decA_step h hs hp
        obtain ⟨g1, g2, g3, g4, g5, g6, g7⟩ := decA_step h' ht hp
        have hr := rd_range s b
        have gr := rd_range t b
        have l1 := rd_low h1
        have l2 := rd_low g1
        cases k with
        | zero => omega
        | succ k =>
          have v1 := Int.mul_ediv_add_emod (p + (rd s b).1) ((X.length : Int) + 1)
          have v2 := Int.mul_ediv_add_emod (p + (rd t b).1) ((X.length : Int) + 1)
          have ft : ∀ {q : Int}, 0 ≤ q → q ≤ X.length → (X.take q.toNat).length = q.toNat := fun h1 h2 => by rw [List.length_take]; omega
          have i := decA_keeps l _ _ _ _ _ _ _ (Nat.le_refl _) h4 (by omega) (by rw [List.length_append, ft h5 h6, List.length_cons, List.length_drop]; omega) (hF.ins h5 hp h6 h7)
          have j := decA_keeps l _ _ _ _ _ _ _ (Nat.le_refl _) g4 (by omega) (by rw [List.length_append, ft g5 g6, List.length_cons, List.length_drop]; omega) (hF.ins g5 hp g6 g7)
          have n1 := no_less hF h5 h6 h7 g6 i.1 rfl j.1 j.2.1
          have n2 := no_less hF g5 g6 g7 h6 j.1 rfl i.1 i.2.1
          have hq : (p + (rd s b).1) % ((X.length : Int) + 1) = (p + (rd t b).1) % ((X.length : Int) + 1) := by omega
          have hm : (p + (rd s b).1) / ((X.length : Int) + 1) = (p + (rd t b).1) / ((X.length : Int) + 1) := by omega
          have hd : (rd s b).1 = (rd t b).1 := by rw [← hq, ← hm] at v2; omega
          rw [← hq, ← hm, ← hd] at g4
          have e := decA_uniq l k _ _ _ _ _ _ _ (by rw [List.length_drop]; omega) h4 g4 (by omega) (by rw [List.length_append, ft h5 h6, List.length_cons, List.length_drop]; omega) (hF.ins h5 hp h6 h7)
          rw [← List.take_append_drop (rd s b).2.toNat s, ← List.take_append_drop (rd t b).2.toNat t, List.map_append, List.map_append, l1, l2, hd]
          rw [e]
theorem decA_sg (l : List Int) : ∀ (k : Nat) (s : Bytes) (X : List Int) (p n b : Int) (f : Bool), s.length ≤ k → decA s X p n b f = some l → 0 ≤ p → (∀ c ∈ X, sg c = true) → X.length ≤ 255 →
    (∀ c ∈ l, sg c = true) ∧ l.length ≤ 255 ∧ l.length ≤ X.length + s.length
  | k, s, X, p, n, b, f, hk, h, hp, hall, hX => by
    by_cases hs : s.length = 0
    · rw [decA_nil hs] at h
      obtain rfl := Option.some.inj h
      exact ⟨hall, hX, by omega⟩
    · obtain ⟨h1, h2, h3, h4, h5, h6, h7⟩ := decA_step h hs hp
      have hr := rd_range s b
      cases k with
      | zero => omega
      | succ k =>
        generalize (p + (rd s b).1) % ((X.length : Int) + 1) = q at *
        generalize n + (p + (rd s b).1) / ((X.length : Int) + 1) = m at *
        have ht : (X.take q.toNat).length = q.toNat := by rw [List.length_take]; omega
        have hl : (X.take q.toNat ++ m :: X.drop q.toNat).length = X.length + 1 := by rw [List.length_append, ht, List.length_cons, List.length_drop]; omega
        obtain ⟨i1, i2, i3⟩ := decA_sg l k _ _ _ _ _ _ (by rw [List.length_drop]; omega) h4 (by omega) (fun c hc => by
          rcases List.mem_append.mp hc with hc | hc
          · exact hall c (List.mem_of_mem_take hc)
          · rcases List.mem_cons.mp hc with rfl | hc
            · exact h3
            · exact hall c (List.mem_of_mem_drop hc)) (by omega)
        rw [hl, List.length_drop] at i3
        exact ⟨i1, i2, by omega⟩
theorem encF_dec {l : List Int} (hall : ∀ c ∈ l, sg c = true) (hll : l.length ≤ 255) : ∃ W : Bytes, encF l = bas l ++ hyp (bas l) ++ W ∧ decA W ((bas l).map b2) 0 128 72 true = some l := by
  have hbl := bas_len l
  have hbe := bas_le l
  obtain ⟨W, e1, e2, _⟩ := dec_enc l hall hll l.length 128 ⟨bas l ++ hyp (bas l), 0, (bas l).length, 72, true⟩ 0 128 (by omega) (by omega) (by omega) (by simp) (by simp only; rw [Hk_cnt, hbl]) (by simp) (by simp only; omega)
  exact ⟨W, e1, by rw [bas_map hall]; exact e2⟩
theorem bas_of {l : List Int} {B : Bytes} (hB : ∀ y ∈ B, b2 y < 128) (h : l.filter (fun c => decide (c ≤ 127)) = (B.map b2).filter (fun c => decide (c ≤ 127))) : bas l = B := by
  unfold bas
  rw [show (fun c : Int => decide (c < 128)) = fun c => decide (c ≤ 127) by funext c; rw [decide_eq_decide]; omega, h, List.filter_eq_self.mpr, List.map_map]
  · conv => rhs; rw [← List.map_id B]
    refine List.map_congr_left fun y _ => ?_
    simp [b2]
  · intro c hc
    obtain ⟨y, hy, rfl⟩ := List.mem_map.mp hc
    have := hB y hy
    exact decide_eq_true (by omega)
theorem hyAt_is {s : Bytes} {k : Nat} (h : hyAt s = k) : ∃ hk : k < s.length, s[k] = 45 := by
  unfold hyAt Lib.lastIndexByte at h
  rcases Lib.lastIdx_spec (bs s) 45 (bs s).size with ⟨h1, _⟩ | ⟨i, h1, h2, h3, _⟩
  · omega
  · rw [bs_size] at h1
    obtain rfl : i = k := by omega
    refine ⟨h1, ?_⟩
    rw [byte_at s i h1] at h3
    exact b2_inj (by rw [h3]; simp [b2])
/-- what is read is written just so, but for large letters -/
theorem enc_of_dec {s : Bytes} {l : List Int} (h : decF s = some l) : (∀ c ∈ l, sg c = true) ∧ l.length ≤ 255 ∧ l.length ≤ s.length ∧ (encF l).map lowB = s.map lowB := by
  have core : ∀ (B W : Bytes), (∀ y ∈ B, b2 y < 128) → B.length ≤ 255 → decA W (B.map b2) 0 128 72 true = some l → (∀ c ∈ l, sg c = true) ∧ l.length ≤ 255 ∧ l.length ≤ B.length + W.length ∧ (encF l).map lowB = (B ++ hyp B ++ W).map lowB := by
    intro B W hB hBl hd
    have hBs : ∀ c ∈ B.map b2, 0 ≤ c ∧ c < 128 := by
      intro c hc
      obtain ⟨y, hy, rfl⟩ := List.mem_map.mp hc
      exact ⟨by unfold b2; omega, hB y hy⟩
    have hF : Fit (B.map b2) 0 128 := ⟨fun x hx => by have := hBs x hx; omega, fun x hx => (hBs x (List.mem_of_mem_drop hx)).2⟩
    obtain ⟨s1, s2, s3⟩ := decA_sg l _ _ _ _ _ _ _ (Nat.le_refl _) hd (Int.le_refl _) (fun c hc => sg_iff.mpr (by have := hBs c hc; omega)) (by simpa using hBl)
    have hk := (decA_keeps l _ _ _ _ _ _ _ (Nat.le_refl _) hd (Int.le_refl _) (by omega) hF).2.1 127 (by omega)
    have hb := bas_of hB hk
    obtain ⟨V, e1, e2⟩ := encF_dec s1 s2
    rw [hb] at e1 e2
    have hu := decA_uniq l _ _ _ _ _ _ _ _ (Nat.le_refl _) e2 hd (Int.le_refl _) (by omega) hF
    rw [List.length_map] at s3
    exact ⟨s1, s2, s3, by rw [e1, List.map_append, hu, ← List.map_append]⟩
  unfold decF at h
  by_cases h0 : 0 < hyAt s
  · rw [if_pos h0] at h
    by_cases h1 : 255 < hyAt s
    · rw [if_pos h1] at h; cases h
    · rw [if_neg h1] at h
      obtain ⟨k, hk⟩ : ∃ k : Nat, hyAt s = k := ⟨(hyAt s).toNat, by omega⟩
      obtain ⟨hks, h45⟩ := hyAt_is hk
      rw [hk, Int.toNat_natCast] at h
      split at h
      · next hal =>
        rw [decA_of (by rw [List.length_drop]; omega)] at h
        have hB : ∀ y ∈ s.take k, b2 y < 128 := fun y hy => of_decide_eq_true (List.all_eq_true.mp hal y hy)
        have hlt : (s.take k).length = k := by rw [List.length_take]; omega
        obtain ⟨c1, c2, c3, c4⟩ := core (s.take k) (s.drop (k + 1)) hB (by omega) h
        rw [List.length_drop] at c3
        refine ⟨c1, c2, by omega, ?_⟩
        rw [c4]
        congr 1
        unfold hyp
        rw [if_neg (by omega)]
        conv => rhs; rw [← List.take_append_drop k s, List.drop_eq_getElem_cons hks, h45]
        rw [List.append_assoc]
        rfl
      · cases h
  · rw [if_neg h0, decA_of (Nat.le_refl _)] at h
    obtain ⟨c1, c2, c3, c4⟩ := core [] s (by simp) (by simp) h
    exact ⟨c1, c2, by simpa using c3, c4⟩
end Go.Proofs.Ytichfpgamlgocaa
