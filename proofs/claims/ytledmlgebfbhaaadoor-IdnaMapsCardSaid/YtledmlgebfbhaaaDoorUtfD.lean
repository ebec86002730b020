/- What parts what is decoded: plain laws of the reference. -/
import Derived.Test.YtledmlgebfbhaaaDoorUtfC
namespace Go.Proofs.YtledmlgebfbhaaaDoor
open Go.RowKit Lib

/-- what stands behind does not go on with a sign that was begun -/
def Hd (t : Bytes) : Prop := t = [] ∨ ∃ y s, t = y :: s ∧ (b2 y < 0x80 ∨ 0xbf < b2 y)

theorem lead_bnd (c : Int) (h : ¬ (leadF c).1 = 1) (h0 : ¬ (leadF c).1 = 0) : 0x80 ≤ (leadF c).2.1 ∧ (leadF c).2.2 ≤ 0xbf := by
  revert h h0
  unfold leadF
  repeat (first | split | (intro h h0; simp at *))

theorem nextGo_app : ∀ (r : Bytes) (m k : Nat) (c lo hi : Int) (t : Bytes), 0x80 ≤ lo → hi ≤ 0xbf → Hd t → nextGo (r ++ t) m k c lo hi = nextGo r m k c lo hi
  | r, 0, k, c, lo, hi, t, _, _, _ => by simp [nextGo]
  | [], m + 1, k, c, lo, hi, t, h1, h2, ht => by
    rcases ht with rfl | ⟨y, s, rfl, hy⟩
    · rfl
    · rw [List.nil_append]
      simp only [nextGo]
      rw [if_pos (by omega)]
  | x :: r, m + 1, k, c, lo, hi, t, h1, h2, ht => by
    rw [List.cons_append]
    simp only [nextGo]
    split
    · rfl
    · exact nextGo_app r m (k + 1) _ _ _ t (by omega) (by omega) ht

theorem nextF_app (x : UInt8) (r t : Bytes) (ht : Hd t) : nextF (x :: (r ++ t)) = nextF (x :: r) := by
  simp only [nextF]
  by_cases h1 : (leadF (b2 x)).1 = 1
  · rw [if_pos h1, if_pos h1]
  by_cases h0 : (leadF (b2 x)).1 = 0
  · rw [if_neg h1, if_neg h1, if_pos h0, if_pos h0]
  have hb := lead_bnd _ h1 h0
  rw [nextGo_app r _ _ _ _ _ t hb.1 hb.2 ht, nextGo_app r _ _ _ _ _ t hb.1 hb.2 ht, nextGo_app r _ _ _ _ _ t hb.1 hb.2 ht]

theorem signs_app (t : Bytes) (ht : Hd t) : ∀ l : Bytes, signs (l ++ t) = signs l ++ signs t := by
  refine bytes_ind rfl fun x r ih => ?_
  have hn := nextF_n x r
  have hN : nextN (x :: (r ++ t)) = nextN (x :: r) := by unfold nextN; rw [nextF_app x r t ht]
  have hd : (x :: (r ++ t)).drop (nextN (x :: r)) = (x :: r).drop (nextN (x :: r)) ++ t := by
    rw [← List.cons_append, List.drop_append_of_le_length (by rw [List.length_cons]; omega)]
  rw [List.cons_append, signs_cons, signs_cons, hN, nextF_app x r t ht, hd, ih _ (drop_len x r hn.2.1)]
  rfl
theorem rdec_app (l t : Bytes) (ht : Hd t) : rdec (l ++ t) = rdec l ++ rdec t := by
  unfold rdec
  rw [signs_app t ht l, joinF_append]

theorem lead_cont {c : Int} (h1 : 0x80 ≤ c) (h2 : c < 0xc2 ∨ 0xf4 < c) : leadF c = (0, 0, 0) := by
  unfold leadF
  rw [if_neg (by omega), if_pos (by omega)]
theorem next_cont {y : UInt8} (s : Bytes) (h1 : 0x80 ≤ b2 y) (h2 : b2 y ≤ 0xbf) : nextF (y :: s) = (0xfffd, 1, false) := by
  simp only [nextF]
  rw [lead_cont h1 (by omega)]
  rfl
theorem hd_join (m : List Int) : Hd (joinF m) := by
  cases m with
  | nil => exact .inl rfl
  | cons c m =>
    right
    rw [joinF_cons]
    have hl := (enc_len c).1
    have hn := nextF_enc (fix_valid c) (joinF m)
    rw [enc_fix] at hn
    cases he : enc c with
    | nil => rw [he] at hl; simp at hl
    | cons y s =>
      rw [he] at hn
      refine ⟨y, s ++ joinF m, rfl, ?_⟩
      by_cases h1 : b2 y < 0x80
      · exact .inl h1
      · by_cases h2 : 0xbf < b2 y
        · exact .inr h2
        · rw [List.cons_append, next_cont _ (by omega) (by omega)] at hn
          have := trip3 hn.symm
          simp at this
/-- right ahead and behind -/
theorem rdec_parts (l m : List Int) (b : Bytes) : rdec (joinF l ++ b ++ joinF m) = joinF l ++ rdec b ++ joinF m := by
  rw [List.append_assoc, rdec_join, rdec_app _ _ (hd_join m), rdec_join', List.append_assoc]

/-- a byte below 80 -/
def asc (x : UInt8) : Bool := decide (b2 x < 0x80)
theorem next_asc {x : UInt8} (r : Bytes) (h : b2 x < 0x80) : nextF (x :: r) = (b2 x, 1, true) := by
  have : (leadF (b2 x)).1 = 1 := by unfold leadF; rw [if_pos h]
  simp only [nextF]
  rw [if_pos this]
theorem signs_asc {x : UInt8} (r : Bytes) (h : b2 x < 0x80) : signs (x :: r) = b2 x :: signs r := by
  have hN : nextN (x :: r) = 1 := by unfold nextN; rw [next_asc r h]; rfl
  rw [signs_cons, hN, next_asc r h]
  rfl
theorem enc_asc {x : UInt8} (h : b2 x < 0x80) : enc (b2 x) = [x] := by
  rw [enc_1 (b2_lt x).1 h]
  have : (b2 x).toNat = x.toNat := by unfold b2; simp
  rw [this, UInt8.ofNat_toNat]
theorem rdec_asc {x : UInt8} (r : Bytes) (h : b2 x < 0x80) : rdec (x :: r) = x :: rdec r := by
  unfold rdec
  rw [signs_asc r h, joinF_cons, enc_asc h]
  rfl
theorem rdec_ascs : ∀ (a : Bytes), (∀ x ∈ a, b2 x < 0x80) → ∀ t, rdec (a ++ t) = a ++ rdec t
  | [], _, _ => rfl
  | x :: a, h, t => by
    rw [List.cons_append, rdec_asc _ (h x (by simp)), rdec_ascs a (fun y hy => h y (by simp [hy])) t]
    rfl
theorem rdec_ascs' (a : Bytes) (h : ∀ x ∈ a, b2 x < 0x80) : rdec a = a := by
  have := rdec_ascs a h []
  rw [List.append_nil] at this
  rw [this, show rdec [] = [] from rfl, List.append_nil]
/-- what is no sign -/
theorem rdec_one {x : UInt8} {r : Bytes} (h : nextF (x :: r) = (0xfffd, 1, false)) : rdec (x :: r) = [0xef, 0xbf, 0xbd] ++ rdec r := by
  have hN : nextN (x :: r) = 1 := by unfold nextN; rw [h]; rfl
  unfold rdec
  rw [signs_cons, hN, h, joinF_cons, enc_fffd]
  rfl
theorem next_lone {x : UInt8} (r : Bytes) (h : 0x80 ≤ b2 x) (hr : r = [] ∨ ∃ y s, r = y :: s ∧ b2 y < 0x80) : nextF (x :: r) = (0xfffd, 1, false) := by
  have hr' : Hd r := by
    rcases hr with h | ⟨y, s, h1, h2⟩
    · exact .inl h
    · exact .inr ⟨y, s, h1, .inl h2⟩
  have := nextF_app x [] r hr'
  rw [List.nil_append] at this
  rw [this]
  simp only [nextF]
  by_cases h1 : (leadF (b2 x)).1 = 1
  · exfalso
    revert h1
    unfold leadF
    rw [if_neg (by omega)]
    repeat (first | split | simp)
  · rw [if_neg h1]
    split
    · rfl
    split
    · rfl
    split
    · rfl
    · rfl

/-- how the statement of the lone byte comes out -/
theorem broken_1 (a b : Bytes) (c : UInt8) (ha : ∀ x ∈ a, b2 x < 0x80) (hb : ∀ x ∈ b, b2 x < 0x80) (hc : 0x80 ≤ b2 c) : rdec (a ++ [c] ++ b) = a ++ [0xef, 0xbf, 0xbd] ++ b := by
  rw [List.append_assoc, rdec_ascs a ha, List.singleton_append, rdec_one (next_lone b hc ?_), rdec_ascs' b hb, List.append_assoc]
  cases b with
  | nil => exact .inl rfl
  | cons y s => exact .inr ⟨y, s, rfl, hb y (by simp)⟩
theorem broken_2 (a b : Bytes) (c : UInt8) (ha : ∀ x ∈ a, b2 x < 0x80) (hb : ∀ x ∈ b, b2 x < 0x80) (hc : 0x80 ≤ b2 c) : rdec (a ++ [0x80, c] ++ b) = a ++ [0xef, 0xbf, 0xbd, 0xef, 0xbf, 0xbd] ++ b := by
  have h := broken_1 [] b c (by simp) hb hc
  rw [List.nil_append, List.nil_append, List.singleton_append] at h
  rw [List.append_assoc, rdec_ascs a ha, show ([0x80, c] : Bytes) ++ b = 0x80 :: (c :: b) from rfl, rdec_one (next_cont _ (by decide) (by decide)), h, List.append_assoc]
  rfl
theorem broken_3 (a b : Bytes) (c : UInt8) (ha : ∀ x ∈ a, b2 x < 0x80) (hb : ∀ x ∈ b, b2 x < 0x80) (hc : 0x80 ≤ b2 c) : validD (a ++ [c] ++ b) = false := by
  rw [validD_eq, broken_1 a b c ha hb hc]
  refine decide_eq_false fun h => ?_
  have := congrArg List.length h
  simp at this
  omega

theorem nextGo_taken : ∀ (r : Bytes) (m k : Nat) (c lo hi : Int), 0x80 ≤ lo → ∀ y ∈ r.take ((nextGo r m k c lo hi).2.1 - k).toNat, 0x80 ≤ b2 y
  | r, 0, k, c, lo, hi, _, y, hy => by simp [nextGo] at hy
  | [], m + 1, k, c, lo, hi, _, y, hy => by simp at hy
  | x :: r, m + 1, k, c, lo, hi, h, y, hy => by
    unfold nextGo at hy
    split at hy
    · simp at hy
    · have hle := nextGo_le r m (k + 1) (64 * c + b2 x - 0x80) 0x80 0xbf
      obtain ⟨j, hj⟩ : ∃ j : Nat, ((nextGo r m (k + 1) (64 * c + b2 x - 0x80) 0x80 0xbf).2.1 - k).toNat = j + 1 := ⟨((nextGo r m (k + 1) (64 * c + b2 x - 0x80) 0x80 0xbf).2.1 - k).toNat - 1, by omega⟩
      have ih := nextGo_taken r m (k + 1) (64 * c + b2 x - 0x80) 0x80 0xbf (by omega) y
      rw [hj, List.take_succ_cons, List.mem_cons] at hy
      rcases hy with rfl | hy
      · omega
      · refine ih ?_
        have : ((nextGo r m (k + 1) (64 * c + b2 x - 0x80) 0x80 0xbf).2.1 - ((k + 1 : Nat) : Int)).toNat = j := by omega
        rw [this]; exact hy
theorem next_taken {x : UInt8} (r : Bytes) (h : 0x80 ≤ b2 x) : ∀ y ∈ (x :: r).take (nextN (x :: r)), 0x80 ≤ b2 y := by
  intro y hy
  have hn := nextF_n x r
  obtain ⟨j, hj⟩ : ∃ j : Nat, nextN (x :: r) = j + 1 := ⟨nextN (x :: r) - 1, by omega⟩
  have hj2 : j = ((nextF (x :: r)).2.1 - ((1 : Nat) : Int)).toNat := by omega
  rw [hj, List.take_succ_cons, List.mem_cons] at hy
  rcases hy with rfl | hy
  · exact h
  · rw [hj2] at hy
    revert hy
    simp only [nextF]
    have hl1 : ¬ (leadF (b2 x)).1 = 1 := by
      intro h1
      revert h1
      unfold leadF
      rw [if_neg (by omega)]
      repeat (first | split | simp)
    rw [if_neg hl1]
    by_cases h0 : (leadF (b2 x)).1 = 0
    · rw [if_pos h0]; simp
    · rw [if_neg h0]
      have hb := (lead_bnd _ hl1 h0).1
      split
      · exact nextGo_taken _ _ _ _ _ _ hb y
      split
      · exact nextGo_taken _ _ _ _ _ _ hb y
      · exact nextGo_taken _ _ _ _ _ _ hb y

/-- a sign below 80 -/
def ascS (c : Int) : Bool := decide (0 ≤ c ∧ c < 0x80)
theorem filter_none {l : Bytes} (h : ∀ y ∈ l, 0x80 ≤ b2 y) : l.filter asc = [] := by
  refine List.filter_eq_nil_iff.mpr fun y hy => ?_
  have := h y hy
  unfold asc
  simp; omega
theorem filter_signs : ∀ l : Bytes, (signs l).filter ascS = (l.filter asc).map b2 := by
  refine bytes_ind rfl fun x r ih => ?_
  have hn := nextF_n x r
  by_cases hx : b2 x < 0x80
  · rw [signs_asc r hx, List.filter_cons_of_pos (by unfold ascS; simp; exact ⟨(b2_lt x).1, hx⟩), List.filter_cons_of_pos (by unfold asc; simpa using hx), List.map_cons, ih r (Nat.le_refl _)]
  · have ht := next_taken (x := x) r (by omega)
    have hl : (x :: r).filter asc = ((x :: r).drop (nextN (x :: r))).filter asc := by
      rw [← List.take_append_drop (nextN (x :: r)) (x :: r), List.filter_append, filter_none ht, List.nil_append, List.take_append_drop]
    rw [hl, ← ih _ (drop_len x r hn.2.1), signs_cons, List.filter_cons_of_neg]
    unfold ascS
    intro hc
    have hc := of_decide_eq_true hc
    rcases first_any x r with ⟨_, _, _, h4, _, _⟩ | ⟨_, h2, _, _, _⟩
    · rw [enc_1 hc.1 hc.2] at h4
      obtain ⟨j, hj⟩ : ∃ j : Nat, nextN (x :: r) = j + 1 := ⟨nextN (x :: r) - 1, by omega⟩
      rw [hj, List.take_succ_cons] at h4
      injection h4 with h4 _
      have h5 := congrArg UInt8.toNat h4
      rw [toNat_ofNat_lt (by omega)] at h5
      unfold b2 at hx
      omega
    · rw [h2] at hc; omega
theorem b2_inj {x y : UInt8} (h : b2 x = b2 y) : x = y := by
  unfold b2 at h
  exact UInt8.toNat_inj.mp (by omega)
theorem map_b2_inj : ∀ {l m : Bytes}, l.map b2 = m.map b2 → l = m
  | [], [], _ => rfl
  | [], _ :: _, h => by simp at h
  | _ :: _, [], h => by simp at h
  | x :: l, y :: m, h => by
    rw [List.map_cons, List.map_cons] at h
    injection h with h1 h2
    rw [b2_inj h1, map_b2_inj h2]
theorem filter_rdec (l : Bytes) : (rdec l).filter asc = l.filter asc := by
  refine map_b2_inj ?_
  rw [← filter_signs, ← filter_signs, signs_rdec]
end Go.Proofs.YtledmlgebfbhaaaDoor
