/- Plain laws of texts, 2: the first sign of a text, as the three of them tell it. -/
import Derived.Test.YtledmlgebfbhaaaDoorUtfA
namespace Go.Proofs.YtledmlgebfbhaaaDoor
open Go.RowKit Lib

theorem behind_1 {a : Nat} (h : a < 0xc2 ∨ 0xf4 < a) : behindF (a : Int) = (0, 0, 1) := by
  unfold behindF
  rw [if_neg (by omega), if_neg (by omega), if_neg (by omega), if_neg (by omega), if_neg (by omega), if_neg (by omega), if_neg (by omega)]
theorem behind_2 {a : Nat} (h : 0xc2 ≤ a ∧ a < 0xe0) : behindF (a : Int) = (0x80, 0xbf, 2) := by unfold behindF; rw [if_pos (by omega)]
theorem behind_3 {a : Nat} (h : 0xe0 ≤ a ∧ a < 0xf0) : behindF (a : Int) = ((loOf a : Int), (hiOf a : Int), 3) := by
  unfold behindF loOf hiOf
  rw [if_neg (by omega)]
  by_cases k1 : a = 0xe0
  · subst k1; rfl
  · by_cases k2 : a = 0xed
    · subst k2; rfl
    · rw [if_neg (by omega), if_neg (by omega), if_pos (by omega), if_neg k1, if_neg (by omega), if_neg k2, if_neg (by omega)]; rfl
theorem behind_4 {a : Nat} (h : 0xf0 ≤ a ∧ a ≤ 0xf4) : behindF (a : Int) = ((loOf a : Int), (hiOf a : Int), 4) := by
  unfold behindF loOf hiOf
  rw [if_neg (by omega), if_neg (by omega), if_neg (by omega), if_neg (by omega)]
  by_cases k1 : a = 0xf0
  · subst k1; rfl
  · by_cases k2 : a = 0xf4
    · subst k2; rfl
    · rw [if_neg (by omega), if_pos (by omega), if_neg (by omega), if_neg k1, if_neg (by omega), if_neg k2]; rfl

theorem nextGo_beg : ∀ (r : Bytes) (m k : Nat) (c lo hi : Int), (nextGo r m k c lo hi).2.1 = (begGo r m k lo hi : Int)
  | _, 0, k, c, _, _ => by simp [nextGo, begGo]
  | [], _ + 1, k, _, _, _ => by simp [nextGo, begGo]
  | x :: r, m + 1, k, c, lo, hi => by
    unfold nextGo begGo
    by_cases h : b2 x < lo ∨ hi < b2 x
    · rw [if_pos h, if_neg (by omega)]
    · rw [if_neg h, if_pos (by omega)]
      exact nextGo_beg r m (k + 1) _ _ _

/-- what the three of them tell of the first sign -/
def First (x : UInt8) (r : Bytes) : Prop :=
  ((nextF (x :: r)).2.2 = true ∧ (dr (x :: r)).2 = nextN (x :: r) ∧ ((dr (x :: r)).1 : Int) = (nextF (x :: r)).1 ∧ enc (nextF (x :: r)).1 = (x :: r).take (nextN (x :: r)) ∧ ¬ ((dr (x :: r)).1 = 65533 ∧ (dr (x :: r)).2 = 1) ∧
    Utf8.valid (nextF (x :: r)).1 = true) ∨
  ((nextF (x :: r)).2.2 = false ∧ (nextF (x :: r)).1 = 65533 ∧ (dr (x :: r)).1 = 65533 ∧ (dr (x :: r)).2 = 1 ∧ begF (x :: r) = nextN (x :: r))

theorem valid_of {c : Int} (h : 0 ≤ c ∧ c < 0xd800 ∨ 0xe000 ≤ c ∧ c ≤ 0x10ffff) : Utf8.valid c = true := by
  unfold Utf8.valid
  simp only [Bool.or_eq_true, Bool.and_eq_true, decide_eq_true_eq]
  omega

theorem lohi (a : Nat) : 0x80 ≤ loOf a ∧ hiOf a ≤ 0xbf := by
  unfold loOf hiOf
  constructor
  · repeat' split
    all_goals omega
  · repeat' split
    all_goals omega
theorem ofNat_eq {n : Nat} {x : UInt8} (h : n = x.toNat) : UInt8.ofNat n = x := by subst h; exact UInt8.ofNat_toNat
theorem first_1 (x : UInt8) (r : Bytes) (h : x.toNat < 0x80) : First x r := by
  have hl : leadF (b2 x) = (1, 0, 0) := lead_1 h
  have hn : nextF (x :: r) = (b2 x, 1, true) := by simp [nextF, hl]
  have hN : nextN (x :: r) = 1 := by unfold nextN; rw [hn]; rfl
  have hd : dr (x :: r) = (x.toNat, 1) := by rw [dr_eq]; exact decN1 h
  left
  rw [hn, hN, hd]
  refine ⟨rfl, rfl, rfl, ?_, by simp; omega, valid_of (by unfold b2; omega)⟩
  rw [enc_1 (b2_lt x).1 (by unfold b2; omega)]
  simp [b2]

theorem first_0 (x : UInt8) (r : Bytes) (h : 0x80 ≤ x.toNat ∧ x.toNat < 0xc2 ∨ 0xf4 < x.toNat) : First x r := by
  have hx := x.toNat_lt
  have hl : leadF (b2 x) = (0, 0, 0) := lead_0 h
  have hn : nextF (x :: r) = (65533, 1, false) := by simp [nextF, hl]
  have hN : nextN (x :: r) = 1 := by unfold nextN; rw [hn]; rfl
  have hd : dr (x :: r) = (65533, 1) := by rw [dr_eq]; exact decN0 (by simp only [List.getElem?_cons_zero, Option.getD_some]; omega)
  have hb : behindF (b2 x) = (0, 0, 1) := behind_1 (by omega)
  right
  rw [hn, hN, hd]
  exact ⟨rfl, rfl, rfl, rfl, by simp [begF, hb, begGo]⟩

theorem first_bad {x : UInt8} {r : Bytes} {n : Nat} {c lo hi : Int} (hn : nextF (x :: r) = nextGo r n 1 c lo hi) (hb : behindF (b2 x) = (lo, hi, ((n + 1 : Nat) : Int))) (hf : (nextGo r n 1 c lo hi).2.2 = false)
    (h1 : (nextGo r n 1 c lo hi).1 = 65533) (hd : dr (x :: r) = (65533, 1)) : First x r := by
  right
  have hN : begF (x :: r) = nextN (x :: r) := by
    unfold nextN
    rw [hn, nextGo_beg]
    simp [begF, hb]
  rw [hn, hd]
  exact ⟨hf, h1, rfl, rfl, hN⟩

theorem first_2 (x : UInt8) (r : Bytes) (h : 0xc2 ≤ x.toNat ∧ x.toNat < 0xe0) : First x r := by
  have hl : leadF (b2 x) = (2, 0x80, 0xbf) := lead_2 h
  have hb : behindF (b2 x) = (0x80, 0xbf, 2) := behind_2 h
  have hn : nextF (x :: r) = nextGo r 1 1 (b2 x % 32) 0x80 0xbf := by simp [nextF, hl]
  have hd : dr (x :: r) = decodeN (r.length + 1) x.toNat (r[0]?.getD 0).toNat (r[1]?.getD 0).toNat (r[2]?.getD 0).toNat := by rw [dr_eq]; simp
  rw [decN2 h] at hd
  cases r with
  | nil => exact first_bad hn hb rfl rfl (by rw [hd, if_neg (by simp)])
  | cons y r =>
    simp only [List.getElem?_cons_zero, Option.getD_some, List.length_cons] at hd
    by_cases hc : 0x80 ≤ y.toNat ∧ y.toNat ≤ 0xbf
    · have e : nextGo (y :: r) 1 1 (b2 x % 32) 0x80 0xbf = (64 * (b2 x % 32) + b2 y - 0x80, 2, true) := by
        simp only [nextGo]; rw [if_neg (by unfold b2; omega)]; rfl
      rw [e] at hn
      have hN : nextN (x :: y :: r) = 2 := by unfold nextN; rw [hn]; rfl
      rw [if_pos (by omega)] at hd
      left
      rw [hn, hN, hd]
      refine ⟨rfl, rfl, by simp only [b2]; omega, ?_, by simp, valid_of (by simp only [b2]; omega)⟩
      rw [enc_2 (by simp only [b2]; omega) (by simp only [b2]; omega)]
      rw [ofNat_eq (x := x) (by simp only [b2]; omega), ofNat_eq (x := y) (by simp only [b2]; omega)]
      rfl
    · refine first_bad hn hb ?_ ?_ (by rw [hd, if_neg (by omega)])
      all_goals simp only [nextGo]; rw [if_pos (by unfold b2; omega)]

theorem first_3 (x : UInt8) (r : Bytes) (h : 0xe0 ≤ x.toNat ∧ x.toNat < 0xf0) : First x r := by
  have hl : leadF (b2 x) = (3, (loOf x.toNat : Int), (hiOf x.toNat : Int)) := lead_3 h
  have hb : behindF (b2 x) = ((loOf x.toNat : Int), (hiOf x.toNat : Int), 3) := behind_3 h
  have hn : nextF (x :: r) = nextGo r 2 1 (b2 x % 16) (loOf x.toNat) (hiOf x.toNat) := by simp [nextF, hl]
  have hd : dr (x :: r) = decodeN (r.length + 1) x.toNat (r[0]?.getD 0).toNat (r[1]?.getD 0).toNat (r[2]?.getD 0).toNat := by rw [dr_eq]; simp
  rw [decN3 h] at hd
  have hlo : 0x80 ≤ loOf x.toNat ∧ hiOf x.toNat ≤ 0xbf ∧ (x.toNat = 0xe0 → loOf x.toNat = 0xa0) ∧ (x.toNat = 0xed → hiOf x.toNat = 0x9f) := by
    exact ⟨(lohi _).1, (lohi _).2, fun h => by rw [h]; rfl, fun h => by rw [h]; rfl⟩
  obtain ⟨hlo1, hlo2, hlo3, hlo4⟩ := hlo
  generalize loOf x.toNat = lo at *
  generalize hiOf x.toNat = hi at *
  cases r with
  | nil => exact first_bad hn hb rfl rfl (by rw [hd, if_neg (by simp)])
  | cons y r =>
    simp only [List.getElem?_cons_zero, List.getElem?_cons_succ, Option.getD_some, List.length_cons] at hd
    by_cases hc : lo ≤ y.toNat ∧ y.toNat ≤ hi
    · have e : nextGo (y :: r) 2 1 (b2 x % 16) lo hi = nextGo r 1 2 (64 * (b2 x % 16) + b2 y - 0x80) 0x80 0xbf := by
        simp only [nextGo]; rw [if_neg (by unfold b2; omega)]
      cases r with
      | nil => exact first_bad hn hb (by rw [e]; rfl) (by rw [e]; rfl) (by rw [hd, if_neg (by simp)])
      | cons z r =>
        simp only [List.getElem?_cons_zero, Option.getD_some, List.length_cons] at hd
        by_cases hz : 0x80 ≤ z.toNat ∧ z.toNat ≤ 0xbf
        · have e2 : nextGo (z :: r) 1 2 (64 * (b2 x % 16) + b2 y - 0x80) 0x80 0xbf = (64 * (64 * (b2 x % 16) + b2 y - 0x80) + b2 z - 0x80, 3, true) := by
            simp only [nextGo]; rw [if_neg (by unfold b2; omega)]; rfl
          rw [e, e2] at hn
          have hN : nextN (x :: y :: z :: r) = 3 := by unfold nextN; rw [hn]; rfl
          rw [if_pos (by omega)] at hd
          left
          rw [hn, hN, hd]
          refine ⟨rfl, rfl, by simp only [b2]; omega, ?_, by simp, valid_of (by simp only [b2]; omega)⟩
          rw [enc_3 (by simp only [b2]; omega) (by simp only [b2]; omega) (by simp only [b2]; omega)]
          rw [ofNat_eq (x := x) (by simp only [b2]; omega), ofNat_eq (x := y) (by simp only [b2]; omega), ofNat_eq (x := z) (by simp only [b2]; omega)]
          rfl
        · refine first_bad hn hb ?_ ?_ (by rw [hd, if_neg (by omega)])
          all_goals rw [e]; simp only [nextGo]; rw [if_pos (by unfold b2; omega)]
    · refine first_bad hn hb ?_ ?_ (by rw [hd, if_neg (by omega)])
      all_goals simp only [nextGo]; rw [if_pos (by unfold b2; omega)]

theorem first_4 (x : UInt8) (r : Bytes) (h : 0xf0 ≤ x.toNat ∧ x.toNat ≤ 0xf4) : First x r := by
  have hl : leadF (b2 x) = (4, (loOf x.toNat : Int), (hiOf x.toNat : Int)) := lead_4 h
  have hb : behindF (b2 x) = ((loOf x.toNat : Int), (hiOf x.toNat : Int), 4) := behind_4 h
  have hn : nextF (x :: r) = nextGo r 3 1 (b2 x % 8) (loOf x.toNat) (hiOf x.toNat) := by simp [nextF, hl]
  have hd : dr (x :: r) = decodeN (r.length + 1) x.toNat (r[0]?.getD 0).toNat (r[1]?.getD 0).toNat (r[2]?.getD 0).toNat := by rw [dr_eq]; simp
  rw [decN4 h] at hd
  have hlo : 0x80 ≤ loOf x.toNat ∧ hiOf x.toNat ≤ 0xbf ∧ (x.toNat = 0xf0 → loOf x.toNat = 0x90) ∧ (x.toNat = 0xf4 → hiOf x.toNat = 0x8f) := by
    exact ⟨(lohi _).1, (lohi _).2, fun h => by rw [h]; rfl, fun h => by rw [h]; rfl⟩
  obtain ⟨hlo1, hlo2, hlo3, hlo4⟩ := hlo
  generalize loOf x.toNat = lo at *
  generalize hiOf x.toNat = hi at *
  cases r with
  | nil => exact first_bad hn hb rfl rfl (by rw [hd, if_neg (by simp)])
  | cons y r =>
    simp only [List.getElem?_cons_zero, List.getElem?_cons_succ, Option.getD_some, List.length_cons] at hd
    by_cases hc : lo ≤ y.toNat ∧ y.toNat ≤ hi
    · have e : nextGo (y :: r) 3 1 (b2 x % 8) lo hi = nextGo r 2 2 (64 * (b2 x % 8) + b2 y - 0x80) 0x80 0xbf := by
        simp only [nextGo]; rw [if_neg (by unfold b2; omega)]
      cases r with
      | nil => exact first_bad hn hb (by rw [e]; rfl) (by rw [e]; rfl) (by rw [hd, if_neg (by simp)])
      | cons z r =>
        simp only [List.getElem?_cons_zero, List.getElem?_cons_succ, Option.getD_some, List.length_cons] at hd
        by_cases hz : 0x80 ≤ z.toNat ∧ z.toNat ≤ 0xbf
        · have e2 : nextGo (z :: r) 2 2 (64 * (b2 x % 8) + b2 y - 0x80) 0x80 0xbf = nextGo r 1 3 (64 * (64 * (b2 x % 8) + b2 y - 0x80) + b2 z - 0x80) 0x80 0xbf := by
            simp only [nextGo]; rw [if_neg (by unfold b2; omega)]
          cases r with
          | nil => exact first_bad hn hb (by rw [e, e2]; rfl) (by rw [e, e2]; rfl) (by rw [hd, if_neg (by simp)])
          | cons u r =>
            simp only [List.getElem?_cons_zero, Option.getD_some, List.length_cons] at hd
            by_cases hu : 0x80 ≤ u.toNat ∧ u.toNat ≤ 0xbf
            · have e3 : nextGo (u :: r) 1 3 (64 * (64 * (b2 x % 8) + b2 y - 0x80) + b2 z - 0x80) 0x80 0xbf = (64 * (64 * (64 * (b2 x % 8) + b2 y - 0x80) + b2 z - 0x80) + b2 u - 0x80, 4, true) := by
                simp only [nextGo]; rw [if_neg (by unfold b2; omega)]; rfl
              rw [e, e2, e3] at hn
              have hN : nextN (x :: y :: z :: u :: r) = 4 := by unfold nextN; rw [hn]; rfl
              rw [if_pos (by omega)] at hd
              left
              rw [hn, hN, hd]
              refine ⟨rfl, rfl, by simp only [b2]; omega, ?_, by simp, valid_of (by simp only [b2]; omega)⟩
              rw [enc_4 (by simp only [b2]; omega) (by simp only [b2]; omega)]
              rw [ofNat_eq (x := x) (by simp only [b2]; omega), ofNat_eq (x := y) (by simp only [b2]; omega), ofNat_eq (x := z) (by simp only [b2]; omega), ofNat_eq (x := u) (by simp only [b2]; omega)]
              rfl
            · refine first_bad hn hb ?_ ?_ (by rw [hd, if_neg (by omega)])
              all_goals rw [e, e2]; simp only [nextGo]; rw [if_pos (by unfold b2; omega)]
        · refine first_bad hn hb ?_ ?_ (by rw [hd, if_neg (by omega)])
          all_goals rw [e]; simp only [nextGo]; rw [if_pos (by unfold b2; omega)]
    · refine first_bad hn hb ?_ ?_ (by rw [hd, if_neg (by omega)])
      all_goals simp only [nextGo]; rw [if_pos (by unfold b2; omega)]

theorem first_any (x : UInt8) (r : Bytes) : First x r := by
  by_cases h1 : x.toNat < 0x80
  · exact first_1 x r h1
  by_cases h2 : x.toNat < 0xc2 ∨ 0xf4 < x.toNat
  · exact first_0 x r (by omega)
  by_cases h3 : x.toNat < 0xe0
  · exact first_2 x r (by omega)
  by_cases h4 : x.toNat < 0xf0
  · exact first_3 x r (by omega)
  · exact first_4 x r (by omega)
end Go.Proofs.YtledmlgebfbhaaaDoor
