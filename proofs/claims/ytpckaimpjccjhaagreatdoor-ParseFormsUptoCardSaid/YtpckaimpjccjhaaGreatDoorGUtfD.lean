/- Plain laws of utf8: the signs of a text. -/
import Derived.Lib.ValidLaws
import Derived.Test.YtpckaimpjccjhaaGreatDoorGTextD
import Derived.Test.YtpckaimpjccjhaaGreatDoorGTextI
set_option maxHeartbeats 40000000
namespace Go.Proofs.YtpckaimpjccjhaaGreatDoor
section
open Go.RowKit Lib
def loOf (a : Nat) : Nat := if a = 0xe0 then 0xa0 else if a = 0xf0 then 0x90 else 0x80
def hiOf (a : Nat) : Nat := if a = 0xed then 0x9f else if a = 0xf4 then 0x8f else 0xbf
theorem decN1 {n a b c d : Nat} (h : a < 0x80) : decodeN n a b c d = (a, 1) := by
 unfold decodeN; rw [if_pos h]
theorem decN0 {n a b c d : Nat} (h : 0x80 <= a ∧ a < 0xc2 ∨ 0xf4 < a ∧ a < 256) : decodeN n a b c d = (65533, 1) := by
 unfold decodeN
 rw [if_neg (by omega)]
 repeat' split
 all_goals first | rfl | (exfalso; omega)
theorem decN2 {n a b c d : Nat} (h : 0xc2 <= a ∧ a < 0xe0) : decodeN n a b c d = if 1 < n ∧ 0x80 <= b ∧ b <= 0xbf then (64 * (a % 32) + b - 128, 2) else (65533, 1) := by
 unfold decodeN
 rw [if_neg (by omega)]
 by_cases hc : 1 < n ∧ 0x80 <= b ∧ b <= 0xbf
 ·rw [if_pos hc, if_pos (by omega), if_pos (by omega)]
  simp only [Prod.mk.injEq, and_true]; omega
 ·rw [if_neg hc, if_neg (by omega), if_neg (by omega), if_neg (by omega)]
theorem decN3 {n a b c d : Nat} (h : 0xe0 <= a ∧ a < 0xf0) : decodeN n a b c d = if (1 < n ∧ loOf a <= b ∧ b <= hiOf a) ∧ 2 < n ∧ 0x80 <= c ∧ c <= 0xbf then (4096 * (a % 16) + 64 * b + c - 8320, 3) else (65533, 1) := by
 unfold decodeN
 rw [if_neg (by omega), if_neg (by omega)]
 have e1 : loOf a = if a = 0xe0 then 0xa0 else 0x80 := by unfold loOf; split; rfl; rw [if_neg (by omega)]
 have e2 : hiOf a = if a = 0xed then 0x9f else 0xbf := by unfold hiOf; split; rfl; rw [if_neg (by omega)]
 rw [e1, e2]
 by_cases hc : (1 < n ∧ (if a = 0xe0 then 0xa0 else 0x80) <= b ∧ b <= (if a = 0xed then 0x9f else 0xbf)) ∧ 2 < n ∧ 0x80 <= c ∧ c <= 0xbf
 ·rw [if_pos hc]
  have h1 : a = 0xe0 -> 0xa0 <= b := fun h => by rw [if_pos h] at hc; exact hc.1.2.1
  have h2 : a = 0xed -> b <= 0x9f := fun h => by rw [if_pos h] at hc; exact hc.1.2.2
  have h3 : 0x80 <= b ∧ b <= 0xbf := by
   obtain ⟨⟨_, p, q⟩, _⟩ := hc
   constructor
   ·split at p <;> omega
   ·split at q <;> omega
  rw [if_pos (by omega), if_pos (by omega)]
  simp only [Prod.mk.injEq, and_true]; omega
 ·rw [if_neg hc]
  have hbad : ¬ ((1 < n ∧ 0x80 <= b ∧ b <= 0xbf) ∧ 2 < n ∧ 0x80 <= c ∧ c <= 0xbf) ∨ (a = 0xe0 ∧ b < 0xa0) ∨ (a = 0xed ∧ 0x9f < b) := by
   by_cases k : (1 < n ∧ 0x80 <= b ∧ b <= 0xbf) ∧ 2 < n ∧ 0x80 <= c ∧ c <= 0xbf
   ·right
    by_cases k1 : a = 0xe0
    ·left; refine ⟨k1, ?_⟩
     rw [if_pos k1, if_neg (by omega)] at hc; omega
    ·by_cases k2 : a = 0xed
     ·right; refine ⟨k2, ?_⟩
      rw [if_neg k1, if_pos k2] at hc; omega
     ·rw [if_neg k1, if_neg k2] at hc; omega
   ·left; exact k
  repeat' split
  all_goals first | rfl | (exfalso; omega)
theorem decN4 {n a b c d : Nat} (h : 0xf0 <= a ∧ a <= 0xf4) : decodeN n a b c d = if (1 < n ∧ loOf a <= b ∧ b <= hiOf a) ∧ (2 < n ∧ 0x80 <= c ∧ c <= 0xbf) ∧ 3 < n ∧ 0x80 <= d ∧ d <= 0xbf then (262144 * (a % 8) + 4096 * b + 64 * c + d - 532608, 4) else (65533, 1) := by
 unfold decodeN
 rw [if_neg (by omega), if_neg (by omega), if_neg (by omega)]
 have e1 : loOf a = if a = 0xf0 then 0x90 else 0x80 := by unfold loOf; rw [if_neg (by omega)]
 have e2 : hiOf a = if a = 0xf4 then 0x8f else 0xbf := by unfold hiOf; rw [if_neg (by omega)]
 rw [e1, e2]
 by_cases hc : (1 < n ∧ (if a = 0xf0 then 0x90 else 0x80) <= b ∧ b <= (if a = 0xf4 then 0x8f else 0xbf)) ∧ (2 < n ∧ 0x80 <= c ∧ c <= 0xbf) ∧ 3 < n ∧ 0x80 <= d ∧ d <= 0xbf
 ·rw [if_pos hc]
  have h1 : a = 0xf0 -> 0x90 <= b := fun h => by rw [if_pos h] at hc; exact hc.1.2.1
  have h2 : a = 0xf4 -> b <= 0x8f := fun h => by rw [if_pos h] at hc; exact hc.1.2.2
  have h3 : 0x80 <= b ∧ b <= 0xbf := by
   obtain ⟨⟨_, p, q⟩, _⟩ := hc
   constructor
   ·split at p <;> omega
   ·split at q <;> omega
  rw [if_pos (by omega), if_pos (by omega)]
  simp only [Prod.mk.injEq, and_true]; omega
 ·rw [if_neg hc]
  have hbad : ¬ ((1 < n ∧ 0x80 <= b ∧ b <= 0xbf) ∧ (2 < n ∧ 0x80 <= c ∧ c <= 0xbf) ∧ 3 < n ∧ 0x80 <= d ∧ d <= 0xbf) ∨ (a = 0xf0 ∧ b < 0x90) ∨ (a = 0xf4 ∧ 0x8f < b) := by
   by_cases k : (1 < n ∧ 0x80 <= b ∧ b <= 0xbf) ∧ (2 < n ∧ 0x80 <= c ∧ c <= 0xbf) ∧ 3 < n ∧ 0x80 <= d ∧ d <= 0xbf
   ·right
    by_cases k1 : a = 0xf0
    ·left; refine ⟨k1, ?_⟩
     rw [if_pos k1, if_neg (by omega)] at hc; omega
    ·by_cases k2 : a = 0xf4
     ·right; refine ⟨k2, ?_⟩
      rw [if_neg k1, if_pos k2] at hc; omega
     ·rw [if_neg k1, if_neg k2] at hc; omega
   ·left; exact k
  repeat' split
  all_goals first | rfl | (exfalso; omega)
theorem lead_1 {a : Nat} (h : a < 0x80) : leadF (a : Int) = (1, 0, 0) := by unfold leadF; rw [if_pos (by omega)]
theorem lead_0 {a : Nat} (h : 0x80 <= a ∧ a < 0xc2 ∨ 0xf4 < a) : leadF (a : Int) = (0, 0, 0) := by unfold leadF; rw [if_neg (by omega), if_pos (by omega)]
theorem lead_2 {a : Nat} (h : 0xc2 <= a ∧ a < 0xe0) : leadF (a : Int) = (2, 0x80, 0xbf) := by
 unfold leadF; rw [if_neg (by omega), if_neg (by omega), if_pos (by omega)]
theorem lead_3 {a : Nat} (h : 0xe0 <= a ∧ a < 0xf0) : leadF (a : Int) = (3, (loOf a : Int), (hiOf a : Int)) := by
 unfold leadF loOf hiOf
 rw [if_neg (by omega), if_neg (by omega), if_neg (by omega)]
 by_cases k1 : a = 0xe0
 ·subst k1; rfl
 ·by_cases k2 : a = 0xed
  ·subst k2; rfl
  ·rw [if_neg (by omega), if_neg (by omega), if_neg (by omega), if_neg (by omega), if_pos (by omega), if_neg k1, if_neg (by omega), if_neg k2, if_neg (by omega)]; rfl
theorem lead_4 {a : Nat} (h : 0xf0 <= a ∧ a <= 0xf4) : leadF (a : Int) = (4, (loOf a : Int), (hiOf a : Int)) := by
 unfold leadF loOf hiOf
 rw [if_neg (by omega), if_neg (by omega), if_neg (by omega), if_neg (by omega), if_neg (by omega)]
 by_cases k1 : a = 0xf0
 ·subst k1; rfl
 ·by_cases k2 : a = 0xf4
  ·subst k2; rfl
  ·rw [if_neg (by omega), if_neg (by omega), if_neg (by omega), if_neg (by omega), if_neg k1, if_neg (by omega), if_neg k2]; rfl
theorem b8 (n : Nat) (x : UInt8) (h : x.toNat = n) : x = UInt8.ofNat n := by
 apply UInt8.toNat_inj.1
 rw [h, UInt8.toNat_ofNat']
 have := x.toNat_lt
 omega
end
section
open Go.RowKit Lib
theorem behind_1 {a : Nat} (h : a < 0xc2 ∨ 0xf4 < a) : behindF (a : Int) = (0, 0, 1) := by
 unfold behindF
 rw [if_neg (by omega), if_neg (by omega), if_neg (by omega), if_neg (by omega), if_neg (by omega), if_neg (by omega), if_neg (by omega)]
theorem behind_2 {a : Nat} (h : 0xc2 <= a ∧ a < 0xe0) : behindF (a : Int) = (0x80, 0xbf, 2) := by unfold behindF; rw [if_pos (by omega)]
theorem behind_3 {a : Nat} (h : 0xe0 <= a ∧ a < 0xf0) : behindF (a : Int) = ((loOf a : Int), (hiOf a : Int), 3) := by
 unfold behindF loOf hiOf
 rw [if_neg (by omega)]
 by_cases k1 : a = 0xe0
 ·subst k1; rfl
 ·by_cases k2 : a = 0xed
  ·subst k2; rfl
  ·rw [if_neg (by omega), if_neg (by omega), if_pos (by omega), if_neg k1, if_neg (by omega), if_neg k2, if_neg (by omega)]; rfl
theorem behind_4 {a : Nat} (h : 0xf0 <= a ∧ a <= 0xf4) : behindF (a : Int) = ((loOf a : Int), (hiOf a : Int), 4) := by
 unfold behindF loOf hiOf
 rw [if_neg (by omega), if_neg (by omega), if_neg (by omega), if_neg (by omega)]
 by_cases k1 : a = 0xf0
 ·subst k1; rfl
 ·by_cases k2 : a = 0xf4
  ·subst k2; rfl
  ·rw [if_neg (by omega), if_pos (by omega), if_neg (by omega), if_neg k1, if_neg (by omega), if_neg k2]; rfl
theorem nextGo_beg : ∀ (r : Bytes) (m k : Nat) (c lo hi : Int), (nextGo r m k c lo hi).2.1 = (begGo r m k lo hi : Int)
 | _, 0, k, c, _, _ => by simp [nextGo, begGo]
 | [], _ + 1, k, _, _, _ => by simp [nextGo, begGo]
 | x :: r, m + 1, k, c, lo, hi => by
  unfold nextGo begGo
  by_cases h : b2 x < lo ∨ hi < b2 x
  ·rw [if_pos h, if_neg (by omega)]
  ·rw [if_neg h, if_pos (by omega)]
   exact nextGo_beg r m (k + 1) _ _ _
def First (x : UInt8) (r : Bytes) : Prop :=
 ((nextF (x :: r)).2.2 = true ∧ (dr (x :: r)).2 = nextN (x :: r) ∧ ((dr (x :: r)).1 : Int) = (nextF (x :: r)).1 ∧ enc (nextF (x :: r)).1 = (x :: r).take (nextN (x :: r)) ∧ ¬ ((dr (x :: r)).1 = 65533 ∧ (dr (x :: r)).2 = 1) ∧
  Utf8.valid (nextF (x :: r)).1 = true) ∨
 ((nextF (x :: r)).2.2 = false ∧ (nextF (x :: r)).1 = 65533 ∧ (dr (x :: r)).1 = 65533 ∧ (dr (x :: r)).2 = 1 ∧ begF (x :: r) = nextN (x :: r))
theorem valid_of {c : Int} (h : 0 <= c ∧ c < 0xd800 ∨ 0xe000 <= c ∧ c <= 0x10ffff) : Utf8.valid c = true := by
 unfold Utf8.valid
 simp only [Bool.or_eq_true, Bool.and_eq_true, decide_eq_true_eq]
 omega
theorem lohi (a : Nat) : 0x80 <= loOf a ∧ hiOf a <= 0xbf := by
 unfold loOf hiOf
 constructor
 ·repeat' split
  all_goals omega
 ·repeat' split
  all_goals omega
theorem ofNat_eq {n : Nat} {x : UInt8} (h : n = x.toNat) : UInt8.ofNat n = x := by subst h; exact UInt8.ofNat_toNat
theorem first_1 (x : UInt8) (r : Bytes) (h : x.toNat < 0x80) : First x r := by
 have hl : leadF (b2 x) = (1, 0, 0) := lead_1 h
 have hn : nextF (x :: r) = (b2 x, 1, true) := by simp [nextF, hl]
 have hN : nextN (x :: r) = 1 := by unfold nextN; rw [hn]; rfl
 have hd : dr (x :: r) = (x.toNat, 1) := by rw [dr_eq]; exact decN1 h
 left
 rw [hn, hN, hd]
 refine ⟨rfl, rfl, rfl, ?_, by simp; omega, valid_of (by unfold b2; omega)⟩
 rw [enc_1 (b2_lt x).1 (by unfold b2; omega)]
 simp [b2]
theorem first_0 (x : UInt8) (r : Bytes) (h : 0x80 <= x.toNat ∧ x.toNat < 0xc2 ∨ 0xf4 < x.toNat) : First x r := by
 have hx := x.toNat_lt
 have hl : leadF (b2 x) = (0, 0, 0) := lead_0 h
 have hn : nextF (x :: r) = (65533, 1, false) := by simp [nextF, hl]
 have hN : nextN (x :: r) = 1 := by unfold nextN; rw [hn]; rfl
 have hd : dr (x :: r) = (65533, 1) := by rw [dr_eq]; exact decN0 (by simp only [List.getElem?_cons_zero, Option.getD_some]; omega)
 have hb : behindF (b2 x) = (0, 0, 1) := behind_1 (by omega)
 right
 rw [hn, hN, hd]
 exact ⟨rfl, rfl, rfl, rfl, by simp [begF, hb, begGo]⟩
theorem first_bad {x : UInt8} {r : Bytes} {n : Nat} {c lo hi : Int} (hn : nextF (x :: r) = nextGo r n 1 c lo hi) (hb : behindF (b2 x) = (lo, hi, ((n + 1 : Nat) : Int))) (hf : (nextGo r n 1 c lo hi).2.2 = false)
  (h1 : (nextGo r n 1 c lo hi).1 = 65533) (hd : dr (x :: r) = (65533, 1)) : First x r := by
 right
 have hN : begF (x :: r) = nextN (x :: r) := by
  unfold nextN
  rw [hn, nextGo_beg]
  simp [begF, hb]
 rw [hn, hd]
 exact ⟨hf, h1, rfl, rfl, hN⟩
theorem first_2 (x : UInt8) (r : Bytes) (h : 0xc2 <= x.toNat ∧ x.toNat < 0xe0) : First x r := by
 have hl : leadF (b2 x) = (2, 0x80, 0xbf) := lead_2 h
 have hb : behindF (b2 x) = (0x80, 0xbf, 2) := behind_2 h
 have hn : nextF (x :: r) = nextGo r 1 1 (b2 x % 32) 0x80 0xbf := by simp [nextF, hl]
 have hd : dr (x :: r) = decodeN (r.length + 1) x.toNat (r[0]?.getD 0).toNat (r[1]?.getD 0).toNat (r[2]?.getD 0).toNat := by rw [dr_eq]; simp
 rw [decN2 h] at hd
 cases r with
 | nil => exact first_bad hn hb rfl rfl (by rw [hd, if_neg (by simp)])
 | cons y r =>
  simp only [List.getElem?_cons_zero, Option.getD_some, List.length_cons] at hd
  by_cases hc : 0x80 <= y.toNat ∧ y.toNat <= 0xbf
  ·have e : nextGo (y :: r) 1 1 (b2 x % 32) 0x80 0xbf = (64 * (b2 x % 32) + b2 y - 0x80, 2, true) := by
    simp only [nextGo]; rw [if_neg (by unfold b2; omega)]; rfl
   rw [e] at hn
   have hN : nextN (x :: y :: r) = 2 := by unfold nextN; rw [hn]; rfl
   rw [if_pos (by omega)] at hd
   left
   rw [hn, hN, hd]
   refine ⟨rfl, rfl, by simp only [b2]; omega, ?_, by simp, valid_of (by simp only [b2]; omega)⟩
   rw [enc_2 (by simp only [b2]; omega) (by simp only [b2]; omega)]
   rw [ofNat_eq (x := x) (by simp only [b2]; omega), ofNat_eq (x := y) (by simp only [b2]; omega)]
   rfl
  ·refine first_bad hn hb ?_ ?_ (by rw [hd, if_neg (by omega)])
   all_goals simp only [nextGo]; rw [if_pos (by unfold b2; omega)]
theorem first_3 (x : UInt8) (r : Bytes) (h : 0xe0 <= x.toNat ∧ x.toNat < 0xf0) : First x r := by
 have hl : leadF (b2 x) = (3, (loOf x.toNat : Int), (hiOf x.toNat : Int)) := lead_3 h
 have hb : behindF (b2 x) = ((loOf x.toNat : Int), (hiOf x.toNat : Int), 3) := behind_3 h
 have hn : nextF (x :: r) = nextGo r 2 1 (b2 x % 16) (loOf x.toNat) (hiOf x.toNat) := by simp [nextF, hl]
 have hd : dr (x :: r) = decodeN (r.length + 1) x.toNat (r[0]?.getD 0).toNat (r[1]?.getD 0).toNat (r[2]?.getD 0).toNat := by rw [dr_eq]; simp
 rw [decN3 h] at hd
 have hlo : 0x80 <= loOf x.toNat ∧ hiOf x.toNat <= 0xbf ∧ (x.toNat = 0xe0 -> loOf x.toNat = 0xa0) ∧ (x.toNat = 0xed -> hiOf x.toNat = 0x9f) := by
  exact ⟨(lohi _).1, (lohi _).2, fun h => by rw [h]; rfl, fun h => by rw [h]; rfl⟩
 obtain ⟨hlo1, hlo2, hlo3, hlo4⟩ := hlo
 generalize loOf x.toNat = lo at *
 generalize hiOf x.toNat = hi at *
 cases r with
 | nil => exact first_bad hn hb rfl rfl (by rw [hd, if_neg (by simp)])
 | cons y r =>
  simp only [List.getElem?_cons_zero, List.getElem?_cons_succ, Option.getD_some, List.length_cons] at hd
  by_cases hc : lo <= y.toNat ∧ y.toNat <= hi
  ·have e : nextGo (y :: r) 2 1 (b2 x % 16) lo hi = nextGo r 1 2 (64 * (b2 x % 16) + b2 y - 0x80) 0x80 0xbf := by
    simp only [nextGo]; rw [if_neg (by unfold b2; omega)]
   cases r with
   | nil => exact first_bad hn hb (by rw [e]; rfl) (by rw [e]; rfl) (by rw [hd, if_neg (by simp)])
   | cons z r =>
    simp only [List.getElem?_cons_zero, Option.getD_some, List.length_cons] at hd
    by_cases hz : 0x80 <= z.toNat ∧ z.toNat <= 0xbf
    ·have e2 : nextGo (z :: r) 1 2 (64 * (b2 x % 16) + b2 y - 0x80) 0x80 0xbf = (64 * (64 * (b2 x % 16) + b2 y - 0x80) + b2 z - 0x80, 3, true) := by
      simp only [nextGo]; rw [if_neg (by unfold b2; omega)]; rfl
     rw [e, e2] at hn
     have hN : nextN (x :: y :: z :: r) = 3 := by unfold nextN; rw [hn]; rfl
     rw [if_pos (by omega)] at hd
     left
     rw [hn, hN, hd]
     refine ⟨rfl, rfl, by simp only [b2]; omega, ?_, by simp, valid_of (by simp only [b2]; omega)⟩
     rw [enc_3 (by simp only [b2]; omega) (by simp only [b2]; omega) (by simp only [b2]; omega)]
     rw [ofNat_eq (x := x) (by simp only [b2]; omega), ofNat_eq (x := y) (by simp only [b2]; omega), ofNat_eq (x := z) (by simp only [b2]; omega)]
     rfl
    ·refine first_bad hn hb ?_ ?_ (by rw [hd, if_neg (by omega)])
     all_goals rw [e]; simp only [nextGo]; rw [if_pos (by unfold b2; omega)]
  ·refine first_bad hn hb ?_ ?_ (by rw [hd, if_neg (by omega)])
   all_goals simp only [nextGo]; rw [if_pos (by unfold b2; omega)]
theorem first_4 (x : UInt8) (r : Bytes) (h : 0xf0 <= x.toNat ∧ x.toNat <= 0xf4) : First x r := by
 have hl : leadF (b2 x) = (4, (loOf x.toNat : Int), (hiOf x.toNat : Int)) := lead_4 h
 have hb : behindF (b2 x) = ((loOf x.toNat : Int), (hiOf x.toNat : Int), 4) := behind_4 h
 have hn : nextF (x :: r) = nextGo r 3 1 (b2 x % 8) (loOf x.toNat) (hiOf x.toNat) := by simp [nextF, hl]
 have hd : dr (x :: r) = decodeN (r.length + 1) x.toNat (r[0]?.getD 0).toNat (r[1]?.getD 0).toNat (r[2]?.getD 0).toNat := by rw [dr_eq]; simp
 rw [decN4 h] at hd
 have hlo : 0x80 <= loOf x.toNat ∧ hiOf x.toNat <= 0xbf ∧ (x.toNat = 0xf0 -> loOf x.toNat = 0x90) ∧ (x.toNat = 0xf4 -> hiOf x.toNat = 0x8f) := by
  exact ⟨(lohi _).1, (lohi _).2, fun h => by rw [h]; rfl, fun h => by rw [h]; rfl⟩
 obtain ⟨hlo1, hlo2, hlo3, hlo4⟩ := hlo
 generalize loOf x.toNat = lo at *
 generalize hiOf x.toNat = hi at *
 cases r with
 | nil => exact first_bad hn hb rfl rfl (by rw [hd, if_neg (by simp)])
 | cons y r =>
  simp only [List.getElem?_cons_zero, List.getElem?_cons_succ, Option.getD_some, List.length_cons] at hd
  by_cases hc : lo <= y.toNat ∧ y.toNat <= hi
  ·have e : nextGo (y :: r) 3 1 (b2 x % 8) lo hi = nextGo r 2 2 (64 * (b2 x % 8) + b2 y - 0x80) 0x80 0xbf := by
    simp only [nextGo]; rw [if_neg (by unfold b2; omega)]
   cases r with
   | nil => exact first_bad hn hb (by rw [e]; rfl) (by rw [e]; rfl) (by rw [hd, if_neg (by simp)])
   | cons z r =>
    simp only [List.getElem?_cons_zero, List.getElem?_cons_succ, Option.getD_some, List.length_cons] at hd
    by_cases hz : 0x80 <= z.toNat ∧ z.toNat <= 0xbf
    ·have e2 : nextGo (z :: r) 2 2 (64 * (b2 x % 8) + b2 y - 0x80) 0x80 0xbf = nextGo r 1 3 (64 * (64 * (b2 x % 8) + b2 y - 0x80) + b2 z - 0x80) 0x80 0xbf := by
      simp only [nextGo]; rw [if_neg (by unfold b2; omega)]
     cases r with
     | nil => exact first_bad hn hb (by rw [e, e2]; rfl) (by rw [e, e2]; rfl) (by rw [hd, if_neg (by simp)])
     | cons u r =>
      simp only [List.getElem?_cons_zero, Option.getD_some, List.length_cons] at hd
      by_cases hu : 0x80 <= u.toNat ∧ u.toNat <= 0xbf
      ·have e3 : nextGo (u :: r) 1 3 (64 * (64 * (b2 x % 8) + b2 y - 0x80) + b2 z - 0x80) 0x80 0xbf = (64 * (64 * (64 * (b2 x % 8) + b2 y - 0x80) + b2 z - 0x80) + b2 u - 0x80, 4, true) := by
        simp only [nextGo]; rw [if_neg (by unfold b2; omega)]; rfl
       rw [e, e2, e3] at hn
       have hN : nextN (x :: y :: z :: u :: r) = 4 := by unfold nextN; rw [hn]; rfl
       rw [if_pos (by omega)] at hd
       left
       rw [hn, hN, hd]
       refine ⟨rfl, rfl, by simp only [b2]; omega, ?_, by simp, valid_of (by simp only [b2]; omega)⟩
       rw [enc_4 (by simp only [b2]; omega) (by simp only [b2]; omega)]
       rw [ofNat_eq (x := x) (by simp only [b2]; omega), ofNat_eq (x := y) (by simp only [b2]; omega), ofNat_eq (x := z) (by simp only [b2]; omega), ofNat_eq (x := u) (by simp only [b2]; omega)]
       rfl
      ·refine first_bad hn hb ?_ ?_ (by rw [hd, if_neg (by omega)])
       all_goals rw [e, e2]; simp only [nextGo]; rw [if_pos (by unfold b2; omega)]
    ·refine first_bad hn hb ?_ ?_ (by rw [hd, if_neg (by omega)])
     all_goals rw [e]; simp only [nextGo]; rw [if_pos (by unfold b2; omega)]
  ·refine first_bad hn hb ?_ ?_ (by rw [hd, if_neg (by omega)])
   all_goals simp only [nextGo]; rw [if_pos (by unfold b2; omega)]
theorem first_any (x : UInt8) (r : Bytes) : First x r := by
 by_cases h1 : x.toNat < 0x80
 ·exact first_1 x r h1
 by_cases h2 : x.toNat < 0xc2 ∨ 0xf4 < x.toNat
 ·exact first_0 x r (by omega)
 by_cases h3 : x.toNat < 0xe0
 ·exact first_2 x r (by omega)
 by_cases h4 : x.toNat < 0xf0
 ·exact first_3 x r (by omega)
 ·exact first_4 x r (by omega)
end
section
open Go.RowKit Lib
theorem bytes_ind {p : Bytes -> Prop} (h0 : p []) (h1 : ∀ x r, (∀ t : Bytes, t.length <= r.length -> p t) -> p (x :: r)) : ∀ l, p l := by
 have : ∀ (n : Nat) (l : Bytes), l.length <= n -> p l := by
  intro n
  induction n with
  | zero => intro l h; obtain rfl : l = [] := List.eq_nil_of_length_eq_zero (by omega); exact h0
  | succ n ih =>
   intro l h
   cases l with
   | nil => exact h0
   | cons x r => exact h1 x r (fun t ht => ih t (by simp at h; omega))
 exact fun l => this l.length l (Nat.le_refl _)
theorem trip3 {t : Int × Int × Bool} {a b : Int} {c : Bool} (h : t = (a, b, c)) : t.2.2 = c := by subst h; rfl
theorem enc_fffd : enc 65533 = [0xef, 0xbf, 0xbd] := by rw [enc_3 (by omega) (by omega) (by omega)]; rfl
theorem drop_len (x : UInt8) (r : Bytes) {n : Nat} (h : 1 <= n) : ((x :: r).drop n).length <= r.length := by rw [List.length_drop, List.length_cons]; omega
theorem decT_eq : ∀ l, decT l = rdec l := by
 refine bytes_ind rfl ?_
 intro x r ih
 have hn := nextF_n x r
 unfold rdec
 rw [signs_cons, joinF_cons]
 rcases first_any x r with ⟨h1, h2, h3, h4, h5, _⟩ | ⟨h1, h2, h3, h4, h5⟩
 ·rw [decT_ok h5, h4, h2, ih _ (drop_len x r (by omega))]
  rfl
 ·rw [decT_bad ⟨h3, h4⟩, h2, enc_fffd, h5, ih _ (drop_len x r (by omega))]
  rfl
theorem valid_fffd : Utf8.valid 65533 = true := by decide
theorem signs_valid : ∀ l : Bytes, ∀ c ∈ signs l, Utf8.valid c = true := by
 refine bytes_ind (by simp [signs_nil]) ?_
 intro x r ih c hc
 have hn := nextF_n x r
 rw [signs_cons, List.mem_cons] at hc
 rcases hc with hc | hc
 ·rw [hc]
  rcases first_any x r with ⟨h1, h2, h3, h4, h5, h⟩ | ⟨h1, h, h3, h4, h5⟩
  ·exact h
  ·rw [h]; exact valid_fffd
 ·exact ih _ (drop_len x r (by omega)) c hc
theorem valid_iff (c : Int) : Utf8.valid c = true ↔ (0 <= c ∧ c < 0xd800 ∨ 0xe000 <= c ∧ c <= 0x10ffff) := by
 unfold Utf8.valid
 simp only [Bool.or_eq_true, Bool.and_eq_true, decide_eq_true_eq]
theorem toNat_ofNat_lt {n : Nat} (h : n < 256) : (UInt8.ofNat n).toNat = n := by rw [UInt8.toNat_ofNat']; omega
theorem nextF_enc {c : Int} (hv : Utf8.valid c = true) (t : Bytes) : nextF (enc c ++ t) = (c, ((enc c).length : Int), true) := by
 rw [valid_iff] at hv
 by_cases h1 : c < 0x80
 ·rw [enc_1 (by omega) h1]
  have e : (UInt8.ofNat c.toNat).toNat = c.toNat := toNat_ofNat_lt (by omega)
  have hl : leadF (b2 (UInt8.ofNat c.toNat)) = (1, 0, 0) := lead_1 (by omega)
  have hx : nextF (UInt8.ofNat c.toNat :: t) = (b2 (UInt8.ofNat c.toNat), 1, true) := by simp [nextF, hl]
  rw [List.cons_append, List.nil_append, hx]
  have hc : b2 (UInt8.ofNat c.toNat) = c := by unfold b2; omega
  rw [hc]
  rfl
 by_cases h2 : c < 0x800
 ·rw [enc_2 (by omega) h2]
  have e : (UInt8.ofNat (192 + c / 64).toNat).toNat = (192 + c / 64).toNat := toNat_ofNat_lt (by omega)
  have e' : (UInt8.ofNat (128 + c % 64).toNat).toNat = (128 + c % 64).toNat := toNat_ofNat_lt (by omega)
  generalize UInt8.ofNat (192 + c / 64).toNat = x at *
  generalize UInt8.ofNat (128 + c % 64).toNat = y at *
  have hl : leadF (b2 x) = (2, 0x80, 0xbf) := lead_2 (by omega)
  have hb : ¬ (b2 y < 0x80 ∨ 0xbf < b2 y) := by unfold b2; omega
  have hc : 64 * (b2 x % 32) + b2 y - 0x80 = c := by unfold b2; omega
  simp [nextF, hl, nextGo, hb, hc]
 by_cases h3 : c < 0x10000
 ·rw [enc_3 (by omega) h3 (by omega)]
  have e : (UInt8.ofNat (224 + c / 4096).toNat).toNat = (224 + c / 4096).toNat := toNat_ofNat_lt (by omega)
  have e' : (UInt8.ofNat (128 + c / 64 % 64).toNat).toNat = (128 + c / 64 % 64).toNat := toNat_ofNat_lt (by omega)
  have e'' : (UInt8.ofNat (128 + c % 64).toNat).toNat = (128 + c % 64).toNat := toNat_ofNat_lt (by omega)
  generalize UInt8.ofNat (224 + c / 4096).toNat = x at *
  generalize UInt8.ofNat (128 + c / 64 % 64).toNat = y at *
  generalize UInt8.ofNat (128 + c % 64).toNat = z at *
  have hl : leadF (b2 x) = (3, (loOf x.toNat : Int), (hiOf x.toNat : Int)) := lead_3 (by omega)
  have hlo : (x.toNat = 0xe0 -> loOf x.toNat = 0xa0) ∧ (x.toNat ≠ 0xe0 -> loOf x.toNat = 0x80) ∧ (x.toNat = 0xed -> hiOf x.toNat = 0x9f) ∧ (x.toNat ≠ 0xed -> hiOf x.toNat = 0xbf) := by
   unfold loOf hiOf
   refine ⟨fun h => by rw [h]; rfl, fun h => by rw [if_neg h, if_neg (by omega)], fun h => by rw [h]; rfl, fun h => by rw [if_neg h, if_neg (by omega)]⟩
  generalize loOf x.toNat = lo at *
  generalize hiOf x.toNat = hi at *
  obtain ⟨l1, l2, l3, l4⟩ := hlo
  have hb : ¬ (b2 y < (lo : Int) ∨ (hi : Int) < b2 y) := by
   unfold b2
   by_cases k1 : x.toNat = 0xe0
   ·have := l1 k1; have := l4 (by omega); omega
   ·by_cases k2 : x.toNat = 0xed
    ·have := l2 k1; have := l3 k2; omega
    ·have := l2 k1; have := l4 k2; omega
  have hb2 : ¬ (b2 z < 0x80 ∨ 0xbf < b2 z) := by unfold b2; omega
  have hc : 64 * (64 * (b2 x % 16) + b2 y - 0x80) + b2 z - 0x80 = c := by unfold b2; omega
  simp [nextF, hl, nextGo, hb, hb2, hc]
 ·rw [enc_4 (by omega) (by omega)]
  have e : (UInt8.ofNat (240 + c / 262144).toNat).toNat = (240 + c / 262144).toNat := toNat_ofNat_lt (by omega)
  have e0 : (UInt8.ofNat (128 + c / 4096 % 64).toNat).toNat = (128 + c / 4096 % 64).toNat := toNat_ofNat_lt (by omega)
  have e' : (UInt8.ofNat (128 + c / 64 % 64).toNat).toNat = (128 + c / 64 % 64).toNat := toNat_ofNat_lt (by omega)
  have e'' : (UInt8.ofNat (128 + c % 64).toNat).toNat = (128 + c % 64).toNat := toNat_ofNat_lt (by omega)
  generalize UInt8.ofNat (240 + c / 262144).toNat = x at *
  generalize UInt8.ofNat (128 + c / 4096 % 64).toNat = y at *
  generalize UInt8.ofNat (128 + c / 64 % 64).toNat = z at *
  generalize UInt8.ofNat (128 + c % 64).toNat = u at *
  have hl : leadF (b2 x) = (4, (loOf x.toNat : Int), (hiOf x.toNat : Int)) := lead_4 (by omega)
  have hlo : (x.toNat = 0xf0 -> loOf x.toNat = 0x90) ∧ (x.toNat ≠ 0xf0 -> loOf x.toNat = 0x80) ∧ (x.toNat = 0xf4 -> hiOf x.toNat = 0x8f) ∧ (x.toNat ≠ 0xf4 -> hiOf x.toNat = 0xbf) := by
   unfold loOf hiOf
   refine ⟨fun h => by rw [h]; rfl, fun h => by rw [if_neg (by omega), if_neg h], fun h => by rw [h]; rfl, fun h => by rw [if_neg (by omega), if_neg h]⟩
  generalize loOf x.toNat = lo at *
  generalize hiOf x.toNat = hi at *
  obtain ⟨l1, l2, l3, l4⟩ := hlo
  have hb : ¬ (b2 y < (lo : Int) ∨ (hi : Int) < b2 y) := by
   unfold b2
   by_cases k1 : x.toNat = 0xf0
   ·have := l1 k1; have := l4 (by omega); omega
   ·by_cases k2 : x.toNat = 0xf4
    ·have := l2 k1; have := l3 k2; omega
    ·have := l2 k1; have := l4 k2; omega
  have hb2 : ¬ (b2 z < 0x80 ∨ 0xbf < b2 z) := by unfold b2; omega
  have hb3 : ¬ (b2 u < 0x80 ∨ 0xbf < b2 u) := by unfold b2; omega
  have hc : 64 * (64 * (64 * (b2 x % 8) + b2 y - 0x80) + b2 z - 0x80) + b2 u - 0x80 = c := by unfold b2; omega
  simp [nextF, hl, nextGo, hb, hb2, hb3, hc]
theorem runes_join : ∀ (l : List Int), (∀ c ∈ l, Utf8.valid c = true) -> runes (joinF l) = l
 | [], _ => rfl
 | c :: l, h => by
  have hc := h c (by simp)
  have hn := nextF_enc hc (joinF l)
  have hl := (enc_len c).1
  have ih := runes_join l (fun d hd => h d (by simp [hd]))
  rw [joinF_cons]
  cases he : enc c with
  | nil => rw [he] at hl; simp at hl
  | cons x r =>
   rw [he] at hn
   rw [List.cons_append] at hn ⊢
   rw [runes_cons]
   have hN : nextN (x :: (r ++ joinF l)) = (x :: r).length := by unfold nextN; rw [hn]; simp
   rcases first_any x (r ++ joinF l) with ⟨h1, h2, h3, h4, h5, h6⟩ | ⟨h1, h2, h3, h4, h5⟩
   ·rw [h3, h2, hN, hn, <- List.cons_append, List.drop_left, ih]
   ·have h7 : (nextF (x :: (r ++ joinF l))).2.2 = true := trip3 hn
    rw [h7] at h1
    exact absurd h1 (by simp)
theorem runes_decT (l : Bytes) : runes (decT l) = signs l := by
 rw [decT_eq]
 exact runes_join _ (signs_valid l)
end
section
open Go.RowKit Lib
theorem b2_inj {x y : UInt8} (h : b2 x = b2 y) : x = y := by
 unfold b2 at h
 exact UInt8.toNat_inj.mp (by omega)
end
end Go.Proofs.YtpckaimpjccjhaaGreatDoor
