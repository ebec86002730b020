/- Plain laws of puny: what is read is written just so, but for large letters. -/
import Derived.Test.YtichfpgamlgocaaPunX
import Derived.Test.YtichfpgamlgocaaLow
namespace Go.Proofs.Ytichfpgamlgocaa
open Go.RowKit

theorem b2_inj {x y : UInt8} (h : b2 x = b2 y) : x = y := by
  unfold b2 at h
  exact UInt8.toNat_inj.mp (by omega)
theorem low_wrt {x : UInt8} (h : 0 ≤ wrt (b2 x)) : lowB x = db (wrt (b2 x)) := by
  have hr := wrt_range (b2 x)
  have hx : 0 ≤ b2 x ∧ b2 x < 256 := by unfold b2; have := x.toNat_lt; omega
  refine b2_inj ?_
  rw [b2_db (by omega)]
  unfold lowB
  unfold wrt at h ⊢
  unfold dig
  by_cases h1 : 97 ≤ b2 x ∧ b2 x ≤ 122
  · rw [if_neg (by omega), if_pos h1, if_pos (by omega)]; omega
  · rw [if_neg h1] at h ⊢
    by_cases h2 : 65 ≤ b2 x ∧ b2 x ≤ 90
    · rw [if_pos h2, if_pos h2, if_pos (by omega), b2_of (by omega)]; omega
    · rw [if_neg h2] at h ⊢
      rw [if_neg h2]
      by_cases h3 : 48 ≤ b2 x ∧ b2 x ≤ 57
      · rw [if_pos h3, if_neg (by omega)]; omega
      · rw [if_neg h3] at h; omega
theorem rdGo_low : ∀ (l : Bytes) (j : Nat) (s w b D K : Int), rdGo l j s w b = (D, K) → K ≠ 0 → 1 ≤ w → ∃ d : Int, 0 ≤ d ∧ D = s + d * w ∧ ∀ f, d < 2 ^ f → (l.take (K - j).toNat).map lowB = dgGo f j d b
  | [], j, s, w, b, D, K, h, hK, _ => by
    exfalso
    have : ((0 : Int), (0 : Int)) = (D, K) := h
    cases this
    exact hK rfl
  | x :: r, j, s, w, b, D, K, h, hK, hw => by
    have hb := bnd_range j b
    have hr := wrt_range (b2 x)
    unfold rdGo at h
    simp only at h
    split at h
    · cases h; exact absurd rfl hK
    · next h1 =>
      split at h
      · cases h; exact absurd rfl hK
      · next h2 =>
        split at h
        · next h3 =>
          cases h
          refine ⟨wrt (b2 x), by omega, rfl, fun f _ => ?_⟩
          rw [dgGo_last f j h3, show ((j : Int) + 1 - j).toNat = 1 by omega]
          simp [low_wrt (x := x) (by omega)]
        · next h3 =>
          have hw' : 1 ≤ w * (36 - bnd j b) := by
            have : w * 1 ≤ w * (36 - bnd j b) := Int.mul_le_mul_of_nonneg_left (by omega) (by omega)
            omega
          obtain ⟨d, hd0, hdD, hdf⟩ := rdGo_low r (j + 1) _ _ b D K h hK hw'
          have hlen := rdGo_len r (j + 1) (s + wrt (b2 x) * w) (w * (36 - bnd j b)) b
          rw [h] at hlen
          simp only at hlen
          have hmul : d * (w * (36 - bnd j b)) = d * (36 - bnd j b) * w := by rw [Int.mul_comm w, Int.mul_assoc]
          have hnn : 0 ≤ d * (36 - bnd j b) := Int.mul_nonneg hd0 (by omega)
          refine ⟨wrt (b2 x) + d * (36 - bnd j b), by omega, by rw [hdD, hmul, Int.add_mul]; omega, fun f hf => ?_⟩
          obtain ⟨g, rfl, hmo, hq⟩ := dgGo_more (j := j) (bias := b) (by omega) hf (by omega)
          have e1 : (wrt (b2 x) + d * (36 - bnd j b) - bnd j b) = (wrt (b2 x) - bnd j b) + d * (36 - bnd j b) := by omega
          have e2 : (wrt (b2 x) + d * (36 - bnd j b) - bnd j b) / (36 - bnd j b) = d := by
            rw [e1, Int.add_mul_ediv_right _ _ (by omega), Int.ediv_eq_zero_of_lt (by omega) (by omega)]; omega
          have e3 : (wrt (b2 x) + d * (36 - bnd j b) - bnd j b) % (36 - bnd j b) = wrt (b2 x) - bnd j b := by
            rw [e1, Int.add_mul_emod_self_right]; exact Int.emod_eq_of_lt (by omega) (by omega)
          rw [e2] at hq hmo
          rw [e3] at hmo
          rw [hmo, ← hdf g hq, show (K - (j : Int)).toNat = (K - ((j + 1 : Nat) : Int)).toNat + 1 by omega, List.take_succ_cons, List.map_cons, low_wrt (by omega), show bnd (j : Int) b + (wrt (b2 x) - bnd (j : Int) b) = wrt (b2 x) by omega]
theorem rd_low {s : Bytes} {b : Int} (h : (rd s b).2 ≠ 0) : (s.take (rd s b).2.toNat).map lowB = digs (rd s b).1 b := by
  obtain ⟨d, h0, hD, hf⟩ := rdGo_low s 0 0 1 b (rd s b).1 (rd s b).2 rfl h (Int.le_refl _)
  have hr := (rd_range s b).2.1
  have : d = (rd s b).1 := by omega
  rw [← this]
  have := hf 40 (by omega)
  rw [show ((rd s b).2 - (0 : Nat)).toNat = (rd s b).2.toNat by omega] at this
  exact this

/-- what stands of a row, where the text goes on: all up to the sign n, and below it from the place p on -/
def Fit (X : List Int) (p n : Int) : Prop := (∀ x ∈ X, x ≤ n) ∧ ∀ x ∈ X.drop p.toNat, x < n
theorem Fit.ins {X : List Int} {p n : Int} (h : Fit X p n) {q m : Int} (hq : 0 ≤ q) (_ : 0 ≤ p) (hql : q ≤ X.length) (hm : n < m ∨ n = m ∧ p ≤ q) : Fit (X.take q.toNat ++ m :: X.drop q.toNat) (q + 1) m := by
  have ht : (X.take q.toNat).length = q.toNat := by rw [List.length_take]; omega
  constructor
  · intro x hx
    rcases List.mem_append.mp hx with hx | hx
    · have := h.1 x (List.mem_of_mem_take hx); omega
    · rcases List.mem_cons.mp hx with rfl | hx
      · exact Int.le_refl _
      · have := h.1 x (List.mem_of_mem_drop hx); omega
  · intro x hx
    rw [show (q + 1).toNat = (X.take q.toNat).length + 1 by rw [ht]; omega, ← List.drop_drop, List.drop_left] at hx
    have hx' : x ∈ X.drop q.toNat := hx
    rcases hm with hm | ⟨rfl, hm⟩
    · have := h.1 x (List.mem_of_mem_drop hx'); omega
    · refine h.2 x ?_
      rw [show X.drop q.toNat = (X.drop p.toNat).drop (q.toNat - p.toNat) by rw [List.drop_drop]; congr 1; omega] at hx'
      exact List.mem_of_mem_drop hx'
/-- one number read, of a text that can be read -/
theorem decA_step {s : Bytes} {X l : List Int} {p n b : Int} {f : Bool} (h : decA s X p n b f = some l) (hs : ¬ s.length = 0) (_ : 0 ≤ p) :
    (rd s b).2 ≠ 0 ∧ X.length ≠ 255 ∧ sg (n + (p + (rd s b).1) / (X.length + 1)) = true ∧
    decA (s.drop (rd s b).2.toNat) (X.take ((p + (rd s b).1) % (X.length + 1)).toNat ++ (n + (p + (rd s b).1) / (X.length + 1)) :: X.drop ((p + (rd s b).1) % (X.length + 1)).toNat) ((p + (rd s b).1) % (X.length + 1) + 1) (n + (p + (rd s b).1) / (X.length + 1)) (nb (rd s b).1 (X.length + 1) f) false = some l ∧
    0 ≤ (p + (rd s b).1) % (X.length + 1) ∧ (p + (rd s b).1) % (X.length + 1) ≤ X.length ∧
    (n < n + (p + (rd s b).1) / (X.length + 1) ∨ n = n + (p + (rd s b).1) / (X.length + 1) ∧ p ≤ (p + (rd s b).1) % (X.length + 1)) := by
  rw [← decA_of (f := s.length + 1) (by omega), decGo_more _ hs] at h
  have hr := rd_range s b
  by_cases hk : (rd s b).2 = 0
  · rw [if_pos hk] at h; cases h
  · rw [if_neg hk] at h
    split at h
    · cases h
    · next hc =>
      rw [decA_of (by rw [List.length_drop]; omega)] at h
      have h1 : 0 ≤ (p + (rd s b).1) % ((X.length : Int) + 1) := Int.emod_nonneg _ (by omega)
      have h2 : (p + (rd s b).1) % ((X.length : Int) + 1) < (X.length : Int) + 1 := Int.emod_lt_of_pos _ (by omega)
      have h3 : 0 ≤ (p + (rd s b).1) / ((X.length : Int) + 1) := Int.ediv_nonneg (by omega) (by omega)
      have h4 := Int.mul_ediv_add_emod (p + (rd s b).1) ((X.length : Int) + 1)
      refine ⟨hk, fun h => hc (.inl h), ?_, h, h1, by omega, ?_⟩
      · by_cases hsg : sg (n + (p + (rd s b).1) / (X.length + 1)) = true
        · exact hsg
        · exact absurd (.inr hsg) hc
      · by_cases h0 : (p + (rd s b).1) / ((X.length : Int) + 1) = 0
        · right
          rw [h0, Int.mul_zero] at h4
          omega
        · left; omega
/-- what a text that can be read makes of a row -/
theorem decA_keeps (l : List Int) : ∀ (k : Nat) (s : Bytes) (X : List Int) (p n b : Int) (f : Bool), s.length ≤ k → decA s X p n b f = some l → 0 ≤ p → p ≤ X.length → Fit X p n →
    (l.filter (fun c => decide (c ≤ n))).take p.toNat = X.take p.toNat ∧ (∀ m < n, l.filter (fun c => decide (c ≤ m)) = X.filter (fun c => decide (c ≤ m))) ∧ X.length ≤ l.length ∧ (s.length ≠ 0 → X.length < l.length)
  | k, s, X, p, n, b, f, hk, h, hp, hpl, hF => by
    by_cases hs : s.length = 0
    · have h' : some X = some l := by rw [← h, ← decA_of (f := s.length) (Nat.le_refl _), decGo_end _ hs]
      obtain rfl := Option.some.inj h'
      refine ⟨?_, fun _ _ => rfl, Nat.le_refl _, fun h0 => absurd hs h0⟩
      rw [List.filter_eq_self.mpr fun c hc => decide_eq_true (hF.1 c hc)]
    · obtain ⟨h1, h2, h3, h4, h5, h6, h7⟩ := decA_step h hs hp
      have hr := rd_range s b
      cases k with
      | zero => omega
      | succ k =>
        generalize (p + (rd s b).1) % ((X.length : Int) + 1) = q at *
        generalize n + (p + (rd s b).1) / ((X.length : Int) + 1) = m at *
        have ht : (X.take q.toNat).length = q.toNat := by rw [List.length_take]; omega
        obtain ⟨i1, i2, i3, i4⟩ := decA_keeps l k _ _ _ _ _ _ (by rw [List.length_drop]; omega) h4 (by omega) (by rw [List.length_append, ht, List.length_cons, List.length_drop]; omega) (hF.ins h5 hp h6 h7)
        rw [List.length_append, ht, List.length_cons, List.length_drop] at i3
        have hfil : ∀ m' < m, (X.take q.toNat ++ m :: X.drop q.toNat).filter (fun c => decide (c ≤ m')) = X.filter (fun c => decide (c ≤ m')) := by
          intro m' hm'
          rw [List.filter_append, List.filter_cons_of_neg (by simp; omega), ← List.filter_append, List.take_append_drop]
        refine ⟨?_, fun m' hm' => ?_, by omega, fun _ => by omega⟩
        · rcases h7 with h7 | ⟨rfl, h7⟩
          · rw [i2 n h7, hfil n h7, List.filter_eq_self.mpr fun c hc => decide_eq_true (hF.1 c hc)]
          · have e := congrArg (List.take p.toNat) i1
            rw [List.take_take, List.take_take, Nat.min_eq_left (by omega), List.take_append_of_le_length (by omega), List.take_take, Nat.min_eq_left (by omega)] at e
            exact e
        · rw [i2 m' (by omega), hfil m' (by omega)]
end Go.Proofs.Ytichfpgamlgocaa
