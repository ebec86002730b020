/- Plain laws of texts, 3: decoding, and going back. -/
import Derived.Test.YtledmlgebfbhaaaDoorUtfB
import Derived.Lib.ValidLaws
namespace Go.Proofs.YtledmlgebfbhaaaDoor
open Go.RowKit Lib

theorem bytes_ind {p : Bytes → Prop} (h0 : p []) (h1 : ∀ x r, (∀ t : Bytes, t.length ≤ r.length → p t) → p (x :: r)) : ∀ l, p l := by
  have : ∀ (n : Nat) (l : Bytes), l.length ≤ n → p l := by
    intro n
    induction n with
    | zero => intro l h; obtain rfl : l = [] := List.eq_nil_of_length_eq_zero (by omega); exact h0
    | succ n ih =>
      intro l h
      cases l with
      | nil => exact h0
      | cons x r => exact h1 x r (fun t ht => ih t (by simp at h; omega))
  exact fun l => this l.length l (Nat.le_refl _)

theorem trip3 {t : Int × Int × Bool} {a b : Int} {c : Bool} (h : t = (a, b, c)) : t.2.2 = c := by subst h; rfl
theorem enc_fffd : enc 65533 = [0xef, 0xbf, 0xbd] := by rw [enc_3 (by omega) (by omega) (by omega)]; rfl

theorem drop_len (x : UInt8) (r : Bytes) {n : Nat} (h : 1 ≤ n) : ((x :: r).drop n).length ≤ r.length := by rw [List.length_drop, List.length_cons]; omega

/-- the program decodes as the reference does -/
theorem decT_eq : ∀ l, decT l = rdec l := by
  refine bytes_ind rfl ?_
  intro x r ih
  have hn := nextF_n x r
  unfold rdec
  rw [signs_cons, joinF_cons]
  rcases first_any x r with ⟨h1, h2, h3, h4, h5, _⟩ | ⟨h1, h2, h3, h4, h5⟩
  · rw [decT_ok h5, h4, h2, ih _ (drop_len x r (by omega))]
    rfl
  · rw [decT_bad ⟨h3, h4⟩, h2, enc_fffd, h5, ih _ (drop_len x r (by omega))]
    rfl

theorem valid_fffd : Utf8.valid 65533 = true := by decide
theorem signs_valid : ∀ l : Bytes, ∀ c ∈ signs l, Utf8.valid c = true := by
  refine bytes_ind (by simp [signs_nil]) ?_
  intro x r ih c hc
  have hn := nextF_n x r
  rw [signs_cons, List.mem_cons] at hc
  rcases hc with hc | hc
  · rw [hc]
    rcases first_any x r with ⟨h1, h2, h3, h4, h5, h⟩ | ⟨h1, h, h3, h4, h5⟩
    · exact h
    · rw [h]; exact valid_fffd
  · exact ih _ (drop_len x r (by omega)) c hc

theorem valid_iff (c : Int) : Utf8.valid c = true ↔ (0 ≤ c ∧ c < 0xd800 ∨ 0xe000 ≤ c ∧ c ≤ 0x10ffff) := by
  unfold Utf8.valid
  simp only [Bool.or_eq_true, Bool.and_eq_true, decide_eq_true_eq]

theorem toNat_ofNat_lt {n : Nat} (h : n < 256) : (UInt8.ofNat n).toNat = n := by rw [UInt8.toNat_ofNat']; omega

/-- a sign's bytes are told as the sign -/
theorem nextF_enc {c : Int} (hv : Utf8.valid c = true) (t : Bytes) : nextF (enc c ++ t) = (c, ((enc c).length : Int), true) := by
  rw [valid_iff] at hv
  by_cases h1 : c < 0x80
  · rw [enc_1 (by omega) h1]
    have e : (UInt8.ofNat c.toNat).toNat = c.toNat := toNat_ofNat_lt (by omega)
    have hl : leadF (b2 (UInt8.ofNat c.toNat)) = (1, 0, 0) := lead_1 (by omega)
    have hx : nextF (UInt8.ofNat c.toNat :: t) = (b2 (UInt8.ofNat c.toNat), 1, true) := by simp [nextF, hl]
    rw [List.cons_append, List.nil_append, hx]
    have hc : b2 (UInt8.ofNat c.toNat) = c := by unfold b2; omega
    rw [hc]
    rfl
  by_cases h2 : c < 0x800
  · rw [enc_2 (by omega) h2]
    have e : (UInt8.ofNat (192 + c / 64).toNat).toNat = (192 + c / 64).toNat := toNat_ofNat_lt (by omega)
    have e' : (UInt8.ofNat (128 + c % 64).toNat).toNat = (128 + c % 64).toNat := toNat_ofNat_lt (by omega)
    generalize UInt8.ofNat (192 + c / 64).toNat = x at *
    generalize UInt8.ofNat (128 + c % 64).toNat = y at *
    have hl : leadF (b2 x) = (2, 0x80, 0xbf) := lead_2 (by omega)
    have hb : ¬ (b2 y < 0x80 ∨ 0xbf < b2 y) := by unfold b2; omega
    have hc : 64 * (b2 x % 32) + b2 y - 0x80 = c := by unfold b2; omega
    simp [nextF, hl, nextGo, hb, hc]
  by_cases h3 : c < 0x10000
  · rw [enc_3 (by omega) h3 (by omega)]
    have e : (UInt8.ofNat (224 + c / 4096).toNat).toNat = (224 + c / 4096).toNat := toNat_ofNat_lt (by omega)
    have e' : (UInt8.ofNat (128 + c / 64 % 64).toNat).toNat = (128 + c / 64 % 64).toNat := toNat_ofNat_lt (by omega)
    have e'' : (UInt8.ofNat (128 + c % 64).toNat).toNat = (128 + c % 64).toNat := toNat_ofNat_lt (by omega)
    generalize UInt8.ofNat (224 + c / 4096).toNat = x at *
    generalize UInt8.ofNat (128 + c / 64 % 64).toNat = y at *
    generalize UInt8.ofNat (128 + c % 64).toNat = z at *
    have hl : leadF (b2 x) = (3, (loOf x.toNat : Int), (hiOf x.toNat : Int)) := lead_3 (by omega)
    have hlo : (x.toNat = 0xe0 → loOf x.toNat = 0xa0) ∧ (x.toNat ≠ 0xe0 → loOf x.toNat = 0x80) ∧ (x.toNat = 0xed → hiOf x.toNat = 0x9f) ∧ (x.toNat ≠ 0xed → hiOf x.toNat = 0xbf) := by
      unfold loOf hiOf
      refine ⟨fun h => by rw [h]; rfl, fun h => by rw [if_neg h, if_neg (by omega)], fun h => by rw [h]; rfl, fun h => by rw [if_neg h, if_neg (by omega)]⟩
    generalize loOf x.toNat = lo at *
    generalize hiOf x.toNat = hi at *
    obtain ⟨l1, l2, l3, l4⟩ := hlo
    have hb : ¬ (b2 y < (lo : Int) ∨ (hi : Int) < b2 y) := by
      unfold b2
      by_cases k1 : x.toNat = 0xe0
      · have := l1 k1; have := l4 (by omega); omega
      · by_cases k2 : x.toNat = 0xed
        · have := l2 k1; have := l3 k2; omega
        · have := l2 k1; have := l4 k2; omega
    have hb2 : ¬ (b2 z < 0x80 ∨ 0xbf < b2 z) := by unfold b2; omega
    have hc : 64 * (64 * (b2 x % 16) + b2 y - 0x80) + b2 z - 0x80 = c := by unfold b2; omega
    simp [nextF, hl, nextGo, hb, hb2, hc]
  · rw [enc_4 (by omega) (by omega)]
    have e : (UInt8.ofNat (240 + c / 262144).toNat).toNat = (240 + c / 262144).toNat := toNat_ofNat_lt (by omega)
    have e0 : (UInt8.ofNat (128 + c / 4096 % 64).toNat).toNat = (128 + c / 4096 % 64).toNat := toNat_ofNat_lt (by omega)
    have e' : (UInt8.ofNat (128 + c / 64 % 64).toNat).toNat = (128 + c / 64 % 64).toNat := toNat_ofNat_lt (by omega)
    have e'' : (UInt8.ofNat (128 + c % 64).toNat).toNat = (128 + c % 64).toNat := toNat_ofNat_lt (by omega)
    generalize UInt8.ofNat (240 + c / 262144).toNat = x at *
    generalize UInt8.ofNat (128 + c / 4096 % 64).toNat = y at *
    generalize UInt8.ofNat (128 + c / 64 % 64).toNat = z at *
    generalize UInt8.ofNat (128 + c % 64).toNat = u at *
    have hl : leadF (b2 x) = (4, (loOf x.toNat : Int), (hiOf x.toNat : Int)) := lead_4 (by omega)
    have hlo : (x.toNat = 0xf0 → loOf x.toNat = 0x90) ∧ (x.toNat ≠ 0xf0 → loOf x.toNat = 0x80) ∧ (x.toNat = 0xf4 → hiOf x.toNat = 0x8f) ∧ (x.toNat ≠ 0xf4 → hiOf x.toNat = 0xbf) := by
      unfold loOf hiOf
      refine ⟨fun h => by rw [h]; rfl, fun h => by rw [if_neg (by omega), if_neg h], fun h => by rw [h]; rfl, fun h => by rw [if_neg (by omega), if_neg h]⟩
    generalize loOf x.toNat = lo at *
    generalize hiOf x.toNat = hi at *
    obtain ⟨l1, l2, l3, l4⟩ := hlo
    have hb : ¬ (b2 y < (lo : Int) ∨ (hi : Int) < b2 y) := by
      unfold b2
      by_cases k1 : x.toNat = 0xf0
      · have := l1 k1; have := l4 (by omega); omega
      · by_cases k2 : x.toNat = 0xf4
        · have := l2 k1; have := l3 k2; omega
        · have := l2 k1; have := l4 k2; omega
    have hb2 : ¬ (b2 z < 0x80 ∨ 0xbf < b2 z) := by unfold b2; omega
    have hb3 : ¬ (b2 u < 0x80 ∨ 0xbf < b2 u) := by unfold b2; omega
    have hc : 64 * (64 * (64 * (b2 x % 8) + b2 y - 0x80) + b2 z - 0x80) + b2 u - 0x80 = c := by unfold b2; omega
    simp [nextF, hl, nextGo, hb, hb2, hb3, hc]

/-- a number as a sign -/
def fix (c : Int) : Int := if Utf8.valid c = true then c else 65533
theorem fix_valid (c : Int) : Utf8.valid (fix c) = true := by
  unfold fix
  split
  · assumption
  · exact valid_fffd
theorem enc_fix (c : Int) : enc (fix c) = enc c := by
  unfold fix
  split
  · rfl
  · next h =>
    rw [enc_fffd, enc_bad]
    rw [valid_iff] at h
    omega
theorem fix_of {c : Int} (h : Utf8.valid c = true) : fix c = c := by unfold fix; rw [if_pos h]

theorem signs_enc (c : Int) (t : Bytes) : signs (enc c ++ t) = fix c :: signs t := by
  have h := nextF_enc (fix_valid c) t
  rw [enc_fix] at h
  have hl := (enc_len c).1
  cases he : enc c with
  | nil => rw [he] at hl; simp at hl
  | cons x r =>
    rw [he] at h
    rw [List.cons_append, signs_cons]
    have hN : nextN (x :: (r ++ t)) = (x :: r).length := by
      unfold nextN
      rw [← List.cons_append, h]
      simp
    rw [hN, ← List.cons_append, h, List.drop_left]
theorem signs_join : ∀ (l : List Int) (t : Bytes), signs (joinF l ++ t) = l.map fix ++ signs t
  | [], t => rfl
  | c :: l, t => by rw [joinF_cons, List.append_assoc, signs_enc, signs_join l t]; rfl
theorem join_fix (l : List Int) : joinF (l.map fix) = joinF l := by
  induction l with
  | nil => rfl
  | cons c l ih => rw [List.map_cons, joinF_cons, joinF_cons, enc_fix, ih]
theorem map_fix {l : List Int} (h : ∀ c ∈ l, Utf8.valid c = true) : l.map fix = l := by
  induction l with
  | nil => rfl
  | cons c l ih => rw [List.map_cons, fix_of (h c (by simp)), ih (fun d hd => h d (by simp [hd]))]
/-- what is right ahead is as it is -/
theorem rdec_join (l : List Int) (t : Bytes) : rdec (joinF l ++ t) = joinF l ++ rdec t := by
  unfold rdec
  rw [signs_join, joinF_append, join_fix]
theorem rdec_join' (l : List Int) : rdec (joinF l) = joinF l := by
  have := rdec_join l []
  rw [List.append_nil] at this
  rw [this, show rdec [] = [] from rfl, List.append_nil]
theorem rdec_rdec (l : Bytes) : rdec (rdec l) = rdec l := rdec_join' (signs l)
theorem signs_rdec (l : Bytes) : signs (rdec l) = signs l := by
  have := signs_join (signs l) []
  rw [List.append_nil, signs_nil, List.append_nil, map_fix (signs_valid l)] at this
  exact this

/-- a range over a right text tells the signs -/
theorem runes_join : ∀ (l : List Int), (∀ c ∈ l, Utf8.valid c = true) → runes (joinF l) = l
  | [], _ => rfl
  | c :: l, h => by
    have hc := h c (by simp)
    have hn := nextF_enc hc (joinF l)
    have hl := (enc_len c).1
    have ih := runes_join l (fun d hd => h d (by simp [hd]))
    rw [joinF_cons]
    cases he : enc c with
    | nil => rw [he] at hl; simp at hl
    | cons x r =>
      rw [he] at hn
      rw [List.cons_append] at hn ⊢
      rw [runes_cons]
      have hN : nextN (x :: (r ++ joinF l)) = (x :: r).length := by unfold nextN; rw [hn]; simp
      rcases first_any x (r ++ joinF l) with ⟨h1, h2, h3, h4, h5, h6⟩ | ⟨h1, h2, h3, h4, h5⟩
      · rw [h3, h2, hN, hn, ← List.cons_append, List.drop_left, ih]
      · have h7 : (nextF (x :: (r ++ joinF l))).2.2 = true := trip3 hn
        rw [h7] at h1
        exact absurd h1 (by simp)
theorem runes_decT (l : Bytes) : runes (decT l) = signs l := by
  rw [decT_eq]
  exact runes_join _ (signs_valid l)

theorem decodeL_eq (l : Bytes) : decodeL l = dr l := by
  rfl

/-- just what is decoded as it is, is right -/
theorem validD_eq : ∀ l, validD l = decide (rdec l = l) := by
  refine bytes_ind rfl ?_
  intro x r ih
  have hn := nextF_n x r
  rw [validD_step _ (by simp), decodeL_eq]
  have hs : rdec (x :: r) = enc (nextF (x :: r)).1 ++ rdec ((x :: r).drop (nextN (x :: r))) := by unfold rdec; rw [signs_cons, joinF_cons]
  rcases first_any x r with ⟨h1, h2, h3, h4, h5, _⟩ | ⟨h1, h2, h3, h4, h5⟩
  · rw [if_neg h5, h2, ih _ (drop_len x r (by omega)), hs, h4]
    have e : x :: r = (x :: r).take (nextN (x :: r)) ++ (x :: r).drop (nextN (x :: r)) := (List.take_append_drop _ _).symm
    rw [decide_eq_decide]
    constructor
    · intro h; rw [h]; exact e.symm
    · intro h
      have h' := h.trans e
      exact List.append_cancel_left h'
  · rw [if_pos ⟨h3, h4⟩]
    symm
    rw [decide_eq_false_iff_not]
    intro h
    rw [hs, h2] at h
    have := nextF_enc valid_fffd (rdec ((x :: r).drop (nextN (x :: r))))
    rw [h] at this
    rw [this] at h1
    cases h1
end Go.Proofs.YtledmlgebfbhaaaDoor
