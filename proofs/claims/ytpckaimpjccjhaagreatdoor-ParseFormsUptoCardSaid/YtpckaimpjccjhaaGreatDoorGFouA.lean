/- FouA FouB FouC FouD FouE FouR: joined. -/
import Derived.Test.YtpckaimpjccjhaaGreatDoorGIdnI
import Derived.Test.YtpckaimpjccjhaaGreatDoorGIdnG
import Derived.Test.YtpckaimpjccjhaaGreatDoorGSlic
import Derived.Test.YtpckaimpjccjhaaGreatDoorGPunL
import Derived.Test.YtpckaimpjccjhaaGreatDoorGNumB
import Derived.Test.YtpckaimpjccjhaaGreatDoorShelf
import Derived.Test.YtpckaimpjccjhaaGreatDoorGEmB
set_option maxHeartbeats 40000000
namespace Go.Proofs.YtpckaimpjccjhaaGreatDoor
open Go.RowKit
set_option maxRecDepth 10000
def cutC (c : UInt8) : Bytes -> List Bytes
 | [] => [[]]
 | x :: r => if x = c then [] :: cutC c r else match cutC c r with | [] => [[x]] | p :: ps => (x :: p) :: ps
theorem cutC_hit (c : UInt8) (r : Bytes) : cutC c (c :: r) = [] :: cutC c r := by rw [cutC, if_pos rfl]
theorem cutC_ne (c : UInt8) : ∀ t, ∃ p ps, cutC c t = p :: ps
 | [] => ⟨_, _, rfl⟩
 | x :: r => by
  unfold cutC
  split
  ·exact ⟨_, _, rfl⟩
  ·obtain ⟨p, ps, h⟩ := cutC_ne c r
   rw [h]; exact ⟨_, _, rfl⟩
theorem cutC_other {c x : UInt8} {r p : Bytes} {ps : List Bytes} (h : x ≠ c) (hr : cutC c r = p :: ps) : cutC c (x :: r) = (x :: p) :: ps := by
 rw [cutC, if_neg h, hr]
theorem cutC_app (c : UInt8) : ∀ a b : Bytes, cutC c (a ++ c :: b) = cutC c a ++ cutC c b
 | [], b => by rw [List.nil_append, cutC_hit]; rfl
 | x :: r, b => by
  have ih := cutC_app c r b
  obtain ⟨p, ps, h⟩ := cutC_ne c r
  by_cases hx : x = c
  ·subst hx
   rw [List.cons_append, cutC_hit, cutC_hit, ih]; rfl
  ·rw [h] at ih
   rw [List.cons_append, cutC_other hx ih, cutC_other hx h]; rfl
theorem cutC_none {c : UInt8} {p : Bytes} (h : c ∉ p) : cutC c p = [p] := by
 induction p with
 | nil => rfl
 | cons x r ih =>
  have hx : x ≠ c := fun h2 => h (by simp [h2])
  exact cutC_other hx (ih (fun h2 => h (by simp [h2])))
theorem cutC_dot : ∀ t : Bytes, cutC 46 t = cutD t
 | [] => rfl
 | x :: r => by rw [cutC, cutD, cutC_dot r]; rfl
theorem cutC_len (c : UInt8) : ∀ t : Bytes, (cutC c t).length <= t.length + 1
 | [] => by simp [cutC]
 | x :: r => by
  have ih := cutC_len c r
  obtain ⟨p, ps, h⟩ := cutC_ne c r
  rw [h] at ih
  by_cases hx : x = c
  ·subst hx; rw [cutC_hit, h]; simp at ih ⊢; omega
  ·rw [cutC_other hx h]; simp at ih ⊢; omega
theorem cutC_piece (c : UInt8) : ∀ (t p : Bytes), p ∈ cutC c t -> p.length <= t.length ∧ c ∉ p ∧ ∀ x ∈ p, x ∈ t
 | [], p, h => by simp [cutC] at h; subst h; simp
 | x :: r, p, h => by
  obtain ⟨q, qs, hq⟩ := cutC_ne c r
  by_cases hx : x = c
  ·subst hx
   rw [cutC_hit] at h
   rcases List.mem_cons.mp h with rfl | h
   ·simp
   ·obtain ⟨h1, h2, h3⟩ := cutC_piece x r p h
    exact ⟨by simp; omega, h2, fun y hy => List.mem_cons_of_mem _ (h3 y hy)⟩
  ·rw [cutC_other hx hq] at h
   rcases List.mem_cons.mp h with rfl | h
   ·obtain ⟨h1, h2, h3⟩ := cutC_piece c r q (by rw [hq]; simp)
    refine ⟨by simp; omega, ?_, ?_⟩
    ·intro hm
     rcases List.mem_cons.mp hm with e | hm
     ·exact hx e.symm
     ·exact h2 hm
    ·intro y hy
     rcases List.mem_cons.mp hy with rfl | hy
     ·simp
     ·exact List.mem_cons_of_mem _ (h3 y hy)
   ·obtain ⟨h1, h2, h3⟩ := cutC_piece c r p (by rw [hq]; exact List.mem_cons_of_mem _ h)
    exact ⟨by simp; omega, h2, fun y hy => List.mem_cons_of_mem _ (h3 y hy)⟩
def dgsGo (b C : Int) : Int -> Bytes -> Option Int
 | n, [] => some n
 | n, c :: t => if dgt (b2 c) b < 0 then none else dgsGo b C (min (n * b + dgt (b2 c) b) C) t
def numG (C : Int) : Bytes -> Option Int
 | [] => none
 | [c] => dgsGo 10 C 0 [c]
 | c :: x :: t => if c = 48 then (if x = 120 ∨ x = 88 then dgsGo 16 C 0 t else dgsGo 8 C 0 (x :: t)) else dgsGo 10 C 0 (c :: x :: t)
theorem num_two (C : Int) (c x : UInt8) (t : Bytes) : numG C (c :: x :: t) = if c = 48 then (if x = 120 ∨ x = 88 then dgsGo 16 C 0 t else dgsGo 8 C 0 (x :: t)) else dgsGo 10 C 0 (c :: x :: t) := rfl
theorem dgs_ge (b C : Int) (hb : 0 <= b) (hC : 0 <= C) : ∀ (l : Bytes) (n v : Int), 0 <= n -> n <= C -> dgsGo b C n l = some v -> 0 <= v ∧ v <= C
 | [], n, v, h, h2, e => by unfold dgsGo at e; injection e with e; subst e; exact ⟨h, h2⟩
 | c :: t, n, v, h, _, e => by
  unfold dgsGo at e
  split at e
  ·cases e
  ·next hd =>
   have := Int.mul_nonneg h hb
   exact dgs_ge b C hb hC t _ v (by omega) (by omega) e
theorem num_ge {C : Int} (hC : 0 <= C) {s : Bytes} {v : Int} (h : numG C s = some v) : 0 <= v ∧ v <= C := by
 match s, h with
 | [], h => cases h
 | [c], h => exact dgs_ge 10 C (by omega) hC _ 0 v (by omega) hC h
 | c :: x :: t, h =>
  rw [num_two] at h
  split at h
  ·split at h
   ·exact dgs_ge 16 C (by omega) hC _ 0 v (by omega) hC h
   ·exact dgs_ge 8 C (by omega) hC _ 0 v (by omega) hC h
  ·exact dgs_ge 10 C (by omega) hC _ 0 v (by omega) hC h
def partsF (s : Bytes) : List Bytes := if 1 < (cutC 46 s).length ∧ (cutC 46 s).getLast? = some [] then (cutC 46 s).dropLast else cutC 46 s
theorem parts_ne (s : Bytes) : partsF s ≠ [] := by
 obtain ⟨p, ps, h⟩ := cutC_ne 46 s
 unfold partsF
 rw [h]
 split
 ·next hc =>
  intro e
  have : ((p :: ps).dropLast).length = 0 := by rw [e]; rfl
  rw [List.length_dropLast] at this
  omega
 ·simp
theorem parts_mem {s p : Bytes} (h : p ∈ partsF s) : p ∈ cutC 46 s := by
 unfold partsF at h
 split at h
 ·exact List.dropLast_subset _ h
 ·exact h
theorem parts_len (s : Bytes) : (partsF s).length <= s.length + 1 := by
 have := cutC_len 46 s
 unfold partsF
 split
 ·rw [List.length_dropLast]; omega
 ·exact this
def lastF (t : Bytes) : Bool := (numG 4294967296 t).isSome || decide (t ≠ [] ∧ (dgsGo 10 4294967296 0 t).isSome = true)
def endsF (s : Bytes) : Bool := lastF ((partsF s).getLast (parts_ne s))
def room : Nat -> Int | 0 => 4294967296 | 1 => 16777216 | 2 => 65536 | 3 => 256 | _ => 1
def fpGo (C : Int) : Nat -> Int -> List Bytes -> Option Int
 | _, s, [] => some s
 | i, s, [p] => match numG C p with | none => none | some n => if room i <= n then none else some (s + n)
 | i, s, p :: q :: t => match numG C p with | none => none | some n => if 255 < n then none else fpGo C (i + 1) (s + n * room (i + 1)) (q :: t)
def fpF (ps : List Bytes) : Option Int := if 4 < ps.length then none else fpGo 4294967296 0 0 ps
def fparse (s : Bytes) : Option Int := fpF (partsF s)
theorem room_le (i : Nat) : 1 <= room i ∧ room i <= 4294967296 := by unfold room; split <;> decide
theorem room_step {i : Nat} (h : i < 4) : 256 * room (i + 1) = room i := by
 match i, h with
 | 0, _ => decide
 | 1, _ => decide
 | 2, _ => decide
 | 3, _ => decide
theorem fp_range : ∀ (ps : List Bytes) (i : Nat) (s v : Int), ps ≠ [] -> i + ps.length <= 4 -> 0 <= s -> s + room i <= 4294967296 -> fpGo 4294967296 i s ps = some v -> 0 <= v ∧ v < 4294967296
 | [], _, _, _, h, _, _, _, _ => absurd rfl h
 | [p], i, s, v, _, _, h0, h1, e => by
  unfold fpGo at e
  cases h : numG 4294967296 p with
  | none => rw [h] at e; cases e
  | some n =>
   rw [h] at e
   have hn := num_ge (by decide) h
   dsimp only at e
   split at e
   ·cases e
   ·injection e with e; omega
 | p :: q :: t, i, s, v, _, hl, h0, h1, e => by
  unfold fpGo at e
  cases h : numG 4294967296 p with
  | none => rw [h] at e; cases e
  | some n =>
   rw [h] at e
   have hn := num_ge (by decide) h
   dsimp only at e
   split at e
   ·cases e
   ·next hc =>
    have hi : i < 4 := by simp at hl; omega
    have hs := room_step hi
    have hr := room_le (i + 1)
    have hm : 0 <= n * room (i + 1) := Int.mul_nonneg hn.1 (by omega)
    have hm2 : n * room (i + 1) <= 255 * room (i + 1) := Int.mul_le_mul_of_nonneg_right (by omega) (by omega)
    exact fp_range (q :: t) (i + 1) _ v (by simp) (by simp at hl ⊢; omega) (by omega) (by omega) e
theorem fparse_range {s : Bytes} {v : Int} (h : fparse s = some v) : 0 <= v ∧ v < 4294967296 := by
 unfold fparse fpF at h
 split at h
 ·cases h
 ·next hc => exact fp_range _ 0 0 v (parts_ne s) (by omega) (by omega) (by decide) h

abbrev RetN (o : Option Int) (k : IntKind) : Ending := .returned (.tuple #[.int k (o.getD 0), .bool o.isSome])
theorem dgs_step (b C n : Int) {l : Bytes} {k : Nat} (h : k < l.length) : dgsGo b C n (l.drop k) = if dgt (b2 l[k]) b < 0 then none else dgsGo b C (min (n * b + dgt (b2 l[k]) b) C) (l.drop (k + 1)) := by
 rw [List.drop_eq_getElem_cons h]; rfl
theorem digits_any (l : Bytes) (b : Int) (w : World) (hl : l.length <= 1024000000) (hb : b = 8 ∨ b = 10 ∨ b = 16) :
  Calls Tryz.prog 223 #[.string (bs l), .int .i64 b] w fun e w' => e = RetN (if l = [] then none else dgsGo b 4294967296 0 l) .i64 ∧ w' = w := by
 obtain ⟨R, hR⟩ := ex_ (dgsGo b 4294967296 0 l)
 rw [<- hR]
 have HR := h_ hR; clear hR
 obtain ⟨s, hs⟩ := ex_ (bs l)
 have hsz : s.size = l.length := by rw [hs, bs_size]
 have hby : ∀ k (hk : k < s.size) (hk2 : k < l.length), ((s[k]'hk).toNat : Int) = b2 l[k] := fun k hk hk2 => str_at hs hk hk2
 have hemp : (s.toList = []) ↔ l = [] := by rw [hs, toList_bs]
 rw [<- hs]
 clear hs
 obtain ⟨N, hN⟩ := ex_ (s.size)
 have hsN : s.size = N := hN.symm
 have hNm : N <= 1024000000 := by omega
 have HBY := h_ hby; clear hby
 have HSZ := h_ hsz; clear hsz hl hN
 have hb2 : 0 <= b ∧ b <= 16 := by omega
 by_cases hnil : l = []
 ·rw [if_pos hnil]
  have he := hemp.mpr hnil
  have he1 : s.toList.isEmpty = true := by simpa using he
  clear hemp
  go_enter Tryz.func223, Tryz.ntmps223
  go_wp2_with fail
  go_ret2
  exact ⟨rfl, rfl⟩
 ·rw [if_neg hnil]
  have he : ¬ s.toList = [] := fun h => hnil (hemp.mp h)
  have he1 : s.toList.isEmpty = false := by simpa using he
  clear hemp
  have HNIL := h_ hnil; clear hnil
  have HBB := h_ hb; clear hb
  go_enter Tryz.func223, Tryz.ntmps223
  go_wp2_with fail
  go_loopw [6, 13] (fun nv iv wr => ∃ (k : Nat) (n : Int), k <= N ∧ iv = .int .i64 k ∧ nv = .int .i64 n ∧ Hid (dgsGo b 4294967296 n (l.drop k) = R) ∧ 0 <= n ∧ n <= 4294967296 ∧ w = wr) (fun _ i _ => N - (intOf i).toNat)
  case atStart => exact ⟨0, 0, by omega, by simp, by simp, HR.out.symm, by omega, by omega, rfl⟩
  case round =>
   obtain ⟨k, n, hk, rfl, rfl, hd, hn0, hn1, rfl⟩ := hrel
   by_cases hlt : k < N
   ·have hku : k < s.size := by omega
    have hkl : k < l.length := by have := HSZ.out; omega
    have hx := HBY.out k hku hkl
    have hst := dgs_step b 4294967296 n hkl
    rw [hd.out] at hst
    have hr := b2_lt l[k]
    have hda := fun W => digitA_any (b2 l[k]) b W hr (by omega)
    have hlo : -1 <= dgt (b2 l[k]) b ∧ dgt (b2 l[k]) b < 36 := by
     unfold dgt
     simp only
     split <;> (try split) <;> (try split) <;> (try split) <;> omega
    obtain ⟨D, hD⟩ := ex_ (dgt (b2 l[k]) b)
    rw [<- hD] at hst hda hlo
    clear hD
    generalize b2 l[k] = X at hx hr hda
    have HDA := h_ hda; clear hda hd
    have hnb : 0 <= n * b ∧ n * b <= 68719476736 := by rcases HBB.out with rfl | rfl | rfl <;> omega
    by_cases hD0 : D < 0
    ·rw [if_pos hD0] at hst
     have HST := h_ hst; clear hst
     go_wp2_with (first | (go_at_call 92; refine (HDA.out _).mono ?_; rintro e w2 ⟨rfl, rfl⟩) | fail)
     go_ret2
     exact ⟨by rw [HST.out]; rfl, rfl⟩
    ·rw [if_neg hD0] at hst
     obtain ⟨M, hM⟩ := ex_ (n * b)
     have hw1 : IntKind.i64.wrap (n * b) = M := by rw [hM]; exact IntWalk.i64_in _ (by omega)
     rw [<- hM] at hst hnb
     clear hM
     have hw2 : IntKind.i64.wrap (M + D) = M + D := IntWalk.i64_in _ (by omega)
     by_cases hmn : M + D <= 4294967296
     ·rw [show min (M + D) 4294967296 = M + D by omega] at hst
      have HST := h_ hst; clear hst
      go_wp2_with (first | (go_at_call 92; refine (HDA.out _).mono ?_; rintro e w2 ⟨rfl, rfl⟩) | fail)
      go_roundw
      case rel => exact ⟨k + 1, M + D, by omega, by simp, by simp; try omega, HST.out.symm, by omega, by omega, by trivial⟩
      case measure => simp [intOf]; omega
     ·rw [show min (M + D) 4294967296 = 4294967296 by omega] at hst
      have HST := h_ hst; clear hst
      go_wp2_with (first | (go_at_call 92; refine (HDA.out _).mono ?_; rintro e w2 ⟨rfl, rfl⟩) | fail)
      go_roundw
      case rel => exact ⟨k + 1, 4294967296, by omega, by simp, by simp; try omega, HST.out.symm, by omega, by omega, by trivial⟩
      case measure => simp [intOf]; omega
   ·obtain rfl : k = N := by omega
    have hdr : l.drop k = [] := List.drop_eq_nil_of_le (by have := HSZ.out; omega)
    have hd1 := hd.out
    rw [hdr] at hd1
    have HST := h_ (show some n = R from hd1); clear hd1 hd
    go_wp2_with fail
    go_ret2
    exact ⟨by rw [<- HST.out]; rfl, rfl⟩
theorem hp_any (l m : Bytes) (w : World) : Calls Tryz.prog 84 #[.string (bs l), .string (bs m)] w fun e w' => e = .returned (.bool (Lib.hasPrefix l m)) ∧ w' = w := by
 have h := Any.strings_HasPrefix Tryz.laysHP (bs l) (bs m) w
 rw [show (bs l).data.toList = l from ls_bs l, show (bs m).data.toList = m from ls_bs m] at h
 exact h

theorem hp2 (c x : UInt8) (t : Bytes) (y : UInt8) : Lib.hasPrefix (c :: x :: t) [48, y] = (decide (c = 48) && decide (x = y)) := by
 have h : ∀ a b : UInt8, (a == b) = decide (b = a) := fun a b => by
  rw [Bool.eq_iff_iff]
  simp only [beq_iff_eq, decide_eq_true_eq]
  exact eq_comm
 show ((48 == c) && ((y == x) && true)) = _
 rw [h, h, Bool.and_true]
theorem hp2_short (l : Bytes) (h : l.length < 2) (y : UInt8) : Lib.hasPrefix l [48, y] = false := by
 match l, h with
 | [], _ => rfl
 | [c], _ => simp [Lib.hasPrefix, List.isPrefixOf]
def NumC (l : Bytes) (p q : Bool) : Prop := (∀ W, Calls Tryz.prog 84 #[.string (bs l), .string ⟨#[48, 120]⟩] W fun e w' => e = .returned (.bool p) ∧ w' = W) ∧ (∀ W, Calls Tryz.prog 84 #[.string (bs l), .string ⟨#[48, 88]⟩] W fun e w' => e = .returned (.bool q) ∧ w' = W)
theorem NumC.of (l : Bytes) : NumC l (Lib.hasPrefix l [48, 120]) (Lib.hasPrefix l [48, 88]) := ⟨fun W => hp_any l [48, 120] W, fun W => hp_any l [48, 88] W⟩
theorem fnum_any (l : Bytes) (w : World) (hl : l.length <= 1024000000) :
  Calls Tryz.prog 224 #[.string (bs l)] w fun e w' => e = RetN (numG 4294967296 l) .i64 ∧ w' = w := by
 have hnc := NumC.of l
 match l, hl, hnc with
 | [], hl, hnc =>
  have hz := fun W => digits_any [] 10 W (by simp) (by omega)
  rw [hp2_short [] (by simp), hp2_short [] (by simp)] at hnc
  have HP1 := h_ hnc.1
  have HP3 := h_ hnc.2; clear hnc
  have HZ := h_ hz; clear hz
  obtain ⟨s, hs⟩ := ex_ (bs [])
  have hsz : s.size = 0 := by rw [hs]; rfl
  rw [<- hs] at HZ HP1 HP3 ⊢
  clear hs
  go_enter Tryz.func224, Tryz.ntmps224
  go_wp2_with (first
   | (go_at_call 84; (with_reducible first | refine (HP1.out _).mono ?_ | refine (HP3.out _).mono ?_); rintro e w2 ⟨rfl, hw2⟩; subst hw2)
   | (go_at_call 223; refine (HZ.out _).mono ?_; rintro e w2 ⟨rfl, hw2⟩; subst hw2)
   | fail)
  go_ret2
  exact ⟨rfl, rfl⟩
 | [c], hl, hnc =>
  have hz := fun W => digits_any [c] 10 W (by simp) (by omega)
  rw [hp2_short [c] (by simp), hp2_short [c] (by simp)] at hnc
  have HP1 := h_ hnc.1
  have HP3 := h_ hnc.2; clear hnc
  rw [if_neg (by simp)] at hz
  obtain ⟨R, hR⟩ := ex_ (numG 4294967296 [c])
  rw [show dgsGo 10 4294967296 0 [c] = R from hR.symm] at hz
  rw [<- hR]
  clear hR
  have HZ := h_ hz; clear hz
  obtain ⟨s, hs⟩ := ex_ (bs [c])
  have hsz : s.size = 1 := by rw [hs]; rfl
  rw [<- hs] at HZ HP1 HP3 ⊢
  clear hs
  go_enter Tryz.func224, Tryz.ntmps224
  go_wp2_with (first
   | (go_at_call 84; (with_reducible first | refine (HP1.out _).mono ?_ | refine (HP3.out _).mono ?_); rintro e w2 ⟨rfl, hw2⟩; subst hw2)
   | (go_at_call 223; refine (HZ.out _).mono ?_; rintro e w2 ⟨rfl, hw2⟩; subst hw2)
   | fail)
  go_ret2
  exact ⟨rfl, rfl⟩
 | c :: x :: t, hl, hnc =>
  rw [hp2, hp2] at hnc
  rw [num_two]
  have hsz0 : (bs (c :: x :: t)).size = t.length + 2 := by rw [bs_size]; rfl
  have hx0 : ∀ h, (((bs (c :: x :: t))[0]'h).toNat : Int) = b2 c := fun h => rfl
  have hs1 : (bs (c :: x :: t)).extract 1 (t.length + 2) = bs (x :: t) := by
   rw [bs_extract]; congr 1; simp
  have hs2 : (bs (c :: x :: t)).extract 2 (t.length + 2) = bs t := by
   rw [bs_extract]; congr 1; simp
  obtain ⟨L, hL⟩ := ex_ (t.length)
  rw [<- hL] at hsz0 hs1 hs2
  have hLm : L <= 1024000000 := by simp at hl; omega
  by_cases hc : c = 48
  ·have hb : b2 c = 48 := by rw [hc]; decide
   rw [hb] at hx0
   rw [if_pos hc]
   rw [show decide (c = 48) = true by simpa using hc, Bool.true_and, Bool.true_and] at hnc
   by_cases hx : x = 120 ∨ x = 88
   ·rw [if_pos hx]
    have hp : ∃ p q, decide (x = 120) = p ∧ decide (x = 88) = q ∧ ((p = true ∧ q = false) ∨ (p = false ∧ q = true)) := by
     rcases hx with rfl | rfl
     ·exact ⟨true, false, rfl, rfl, .inl ⟨rfl, rfl⟩⟩
     ·exact ⟨false, true, rfl, rfl, .inr ⟨rfl, rfl⟩⟩
    obtain ⟨p, q, hp1, hp2, hpq⟩ := hp
    rw [hp1, hp2] at hnc
    have hz := fun W => digits_any t 16 W (by omega) (by omega)
    have HP1 := h_ hnc.1
    have HP3 := h_ hnc.2; clear hnc hp1 hp2 hc hx
    obtain ⟨s, hs⟩ := ex_ (bs (c :: x :: t))
    rw [<- hs] at hsz0 hs2 HP1 HP3 ⊢
    clear hs hx0 hs1 hl
    by_cases ht : t = []
    ·subst ht
     obtain rfl : L = 0 := hL
     clear hz
     rcases hpq with ⟨rfl, rfl⟩ | ⟨rfl, rfl⟩
     all_goals
      go_enter Tryz.func224, Tryz.ntmps224
      go_wp2_with (first
       | (go_at_call 84; (with_reducible first | refine (HP1.out _).mono ?_ | refine (HP3.out _).mono ?_); rintro e w2 ⟨rfl, hw2⟩; subst hw2)
       | fail)
      go_ret2
      exact ⟨rfl, rfl⟩
    ·rw [if_neg ht] at hz
     have hL1 : L ≠ 0 := fun h => ht (List.eq_nil_of_length_eq_zero (by omega))
     obtain ⟨R, hR⟩ := ex_ (dgsGo 16 4294967296 0 t)
     rw [<- hR] at hz ⊢
     obtain ⟨u, hu⟩ := ex_ (bs t)
     rw [<- hu] at hz hs2
     have HZ := h_ hz; clear hz ht hR hu hL
     rcases hpq with ⟨rfl, rfl⟩ | ⟨rfl, rfl⟩
     all_goals
      go_enter Tryz.func224, Tryz.ntmps224
      go_wp2_with (first
       | (go_at_call 84; (with_reducible first | refine (HP1.out _).mono ?_ | refine (HP3.out _).mono ?_); rintro e w2 ⟨rfl, hw2⟩; subst hw2)
       | (go_at_call 223; refine (HZ.out _).mono ?_; rintro e w2 ⟨rfl, hw2⟩; subst hw2)
       | fail)
      go_ret2
      exact ⟨rfl, rfl⟩
   ·rw [if_neg hx]
    rw [show decide (x = 120) = false by simpa using fun h => hx (.inl h), show decide (x = 88) = false by simpa using fun h => hx (.inr h)] at hnc
    have hz := fun W => digits_any (x :: t) 8 W (by simp at hl ⊢; omega) (by omega)
    rw [if_neg (by simp)] at hz
    have HP1 := h_ hnc.1
    have HP3 := h_ hnc.2; clear hnc hc hx
    obtain ⟨R, hR⟩ := ex_ (dgsGo 8 4294967296 0 (x :: t))
    rw [<- hR] at hz ⊢
    obtain ⟨u, hu⟩ := ex_ (bs (x :: t))
    rw [<- hu] at hz hs1
    obtain ⟨s, hs⟩ := ex_ (bs (c :: x :: t))
    have hx0' : ∀ h : 0 < s.size, ((s[0]'h).toNat : Int) = 48 := by subst hs; exact hx0
    rw [<- hs] at hsz0 hs1 HP1 HP3 ⊢
    clear hs hx0 hs2 hl
    have hx1 := hx0' (show 0 < s.size by rw [hsz0]; exact Nat.succ_pos _)
    have HZ := h_ hz; clear hz hR hu hL hx0'
    go_enter Tryz.func224, Tryz.ntmps224
    go_wp2_with (first
     | (go_at_call 84; (with_reducible first | refine (HP1.out _).mono ?_ | refine (HP3.out _).mono ?_); rintro e w2 ⟨rfl, hw2⟩; subst hw2)
     | (go_at_call 223; refine (HZ.out _).mono ?_; rintro e w2 ⟨rfl, hw2⟩; subst hw2)
     | fail)
    go_ret2
    exact ⟨rfl, rfl⟩
  ·have hb : b2 c ≠ 48 := fun h => hc (by have := b2_inj (x := c) (y := 48) (by rw [h]; decide); exact this)
   rw [if_neg hc]
   rw [show decide (c = 48) = false by simpa using hc, Bool.false_and, Bool.false_and] at hnc
   have hz := fun W => digits_any (c :: x :: t) 10 W hl (by omega)
   rw [if_neg (by simp)] at hz
   have HP1 := h_ hnc.1
   have HP3 := h_ hnc.2; clear hnc hc
   obtain ⟨R, hR⟩ := ex_ (dgsGo 10 4294967296 0 (c :: x :: t))
   rw [<- hR] at hz ⊢
   obtain ⟨s, hs⟩ := ex_ (bs (c :: x :: t))
   have hx0' : ∀ h : 0 < s.size, ((s[0]'h).toNat : Int) = b2 c := by subst hs; exact hx0
   rw [<- hs] at hsz0 hz HP1 HP3 ⊢
   clear hs hx0 hs1 hs2 hl
   have hx1 := hx0' (show 0 < s.size by rw [hsz0]; exact Nat.succ_pos _)
   generalize b2 c = C at hb hx1
   have HZ := h_ hz; clear hz hR hL hx0'
   go_enter Tryz.func224, Tryz.ntmps224
   go_wp2_with (first
    | (go_at_call 84; (with_reducible first | refine (HP1.out _).mono ?_ | refine (HP3.out _).mono ?_); rintro e w2 ⟨rfl, hw2⟩; subst hw2)
    | (go_at_call 223; refine (HZ.out _).mono ?_; rintro e w2 ⟨rfl, hw2⟩; subst hw2)
    | fail)
   go_ret2
   exact ⟨rfl, rfl⟩

theorem str_info : (Tryz.prog.info? 9).map (fun i => (i.zero, i.size, i.bytes)) = some (some (.string ⟨#[]⟩), 1, 16) := by kernel_rfl
def RetP (w : World) (ps : List Bytes) : Ending -> World -> Prop := fun e w' => ∃ v, e = .returned v ∧ Sl w'.heap.size w' v (ps.map S) ∧ Below w.heap.size w w'
theorem sl_strs (w : World) (ps : List Bytes) (hl : ps.length <= 1024000000) : Sl (w.alloc (.cells (Strs ps).toArray 9)).heap.size (w.alloc (.cells (Strs ps).toArray 9)) (.slice (some ⟨w.heap.size, 0, none⟩) ps.length ps.length) (ps.map S) :=
 Sl.of_own (own_strs w w.heap.size 9 ps (Nat.le_refl _) hl)
theorem Sl.pre {B b o n c : Nat} {w : World} {xs : List Value} (h : Sl B w (.slice (some ⟨b, o, none⟩) n c) xs) (hn : n = xs.length) (hn0 : n ≠ 0) (k : Nat) (hk : k <= n) : Sl B w (.slice (some ⟨b, o, none⟩) k c) (xs.take k) := by
 obtain ⟨c', h1, h2, h⟩ := h
 rcases h with ⟨hx, _⟩ | ⟨b', o', hb, hv, ha⟩
 ·rw [hx] at hn; exact absurd hn hn0
 ·injection hv with e1 e2 e3
  injection e1 with e1
  injection e1 with e4 e5
  subst e4 e5 e3
  refine ⟨c, by rw [List.length_take]; omega, h2, .inr ⟨b, o, hb, ?_, fun j hj => ?_⟩⟩
  ·rw [List.length_take, Nat.min_eq_left (by omega)]
  ·rw [List.length_take] at hj
   rw [ha j (by omega)]
   simp
theorem last_at {α : Type} {l : List α} {K : Nat} (h : l.length = K + 1) : l.getLast? = some (l[K]'(by omega)) := by
 rw [List.getLast?_eq_getElem?, show l.length - 1 = K by omega]
 exact List.getElem?_eq_getElem (by omega)
theorem parts_any (l : Bytes) (w : World) (hl : l.length <= 102400000) (hE : Env w) : Calls Tryz.prog 222 #[.string (bs l)] w (RetP w (partsF l)) := by
 have hsp := split_dot l w hE (by omega)
 rw [pieces_cut, <- cutC_dot] at hsp
 have hlen := cutC_len 46 l
 obtain ⟨ps, hps⟩ := ex_ (cutC 46 l)
 have hpf : partsF l = if 1 < ps.length ∧ ps.getLast? = some [] then ps.dropLast else ps := by unfold partsF; rw [hps]
 have hne : ps ≠ [] := by obtain ⟨p, q, h⟩ := cutC_ne 46 l; rw [hps, h]; simp
 rw [hpf]
 rw [<- hps] at hsp hlen
 clear hpf hps
 obtain ⟨K, hK⟩ : ∃ K, ps.length = K + 1 := ⟨ps.length - 1, by have := List.length_pos_iff.mpr hne; omega⟩
 have hla := last_at hK
 have hKm : K <= 102400000 := by omega
 have hsl := sl_strs w ps (by omega)
 have hbel : Below w.heap.size w (w.alloc (.cells (Strs ps).toArray 9)) := (Below.refl _ w).alloc (Nat.le_refl _) _
 rw [hK] at hsp hsl
 obtain ⟨b, o, hbo, _, hcell⟩ := strs_at hsl K (by omega)
 obtain ⟨rfl, rfl⟩ : b = w.heap.size ∧ o = 0 := by injection hbo with h; injection h with h1 h2; exact ⟨h1.symm, h2.symm⟩
 rw [Nat.zero_add] at hcell
 rw [hla]
 obtain ⟨q, hq⟩ := ex_ (ps[K]'(by omega))
 rw [<- hq] at hcell ⊢
 obtain ⟨w2, hw2⟩ := ex_ (w.alloc (.cells (Strs ps).toArray 9))
 rw [<- hw2] at hsp hsl hbel hcell
 obtain ⟨s, hs⟩ := ex_ (bs l)
 rw [<- hs] at hsp ⊢
 obtain ⟨g, hg⟩ := ex_ (w.heap.size)
 rw [<- hg] at hsp hsl hbel hcell
 have hbel0 : ∃ g0, g = g0 ∧ g0 = w.heap.size := ⟨g, rfl, hg⟩
 have HG := h_ hbel0; clear hbel0
 have HSP := h_ hsp; clear hsp
 have HSL := h_ hsl; clear hsl
 have HBE := h_ (show Below w.heap.size w w2 from hg ▸ hbel); clear hbel
 clear hs hw2 hla hne hlen hbo hE hg
 clear hq
 obtain ⟨N, hN⟩ := ex_ (K + 1)
 have hw1 : IntKind.i64.wrap (((K + 1 : Nat) : Int) - 1) = (K : Int) := by rw [IntWalk.i64_in _ (by omega)]; omega
 rw [<- hN] at HSP hw1
 have hKN : K < N := by omega
 have HN := h_ hN; clear hN
 by_cases h1 : 1 < N
 ·by_cases hqe : q = []
  ·have he : (bs q).toList.isEmpty = true := by rw [toList_bs, hqe]; rfl
   have he2 : (bs q).toList = [] := by rw [toList_bs, hqe]
   rw [if_pos ⟨by have := HN.out; omega, by rw [hqe]⟩]
   have hfin : Sl w2.heap.size w2 (.slice (some ⟨g, 0, none⟩) K N) (ps.dropLast.map S) := by
    have := HSL.out.pre (by rw [List.length_map, hK]) (by omega) K (by omega)
    rw [List.dropLast_eq_take, hK, Nat.add_sub_cancel, List.map_take, HN.out]
    exact this
   have HA2 := h_ hfin; clear hfin
   replace hcell : w2.cell? ⟨g, K, none⟩ = some (.string (bs q)) := hcell
   generalize bs q = u at hcell he he2
   clear hqe hK HSL
   go_enter Tryz.func222, Tryz.ntmps222
   go_wp2_with fail
   refine (HSP.out).mono ?_
   rintro e w3 ⟨rfl, rfl⟩
   go_wp2_with fail
   go_ret
   exact ⟨_, rfl, HA2.out, HBE.out⟩
  ·have he : (bs q).toList.isEmpty = false := by rw [toList_bs]; simpa using hqe
   have he2 : ¬ (bs q).toList = [] := by rw [toList_bs]; exact hqe
   rw [if_neg (fun a => hqe (by have := a.2; injection this))]
   have HSL2 := h_ HSL.out
   rw [<- HN.out] at HSL2
   replace hcell : w2.cell? ⟨g, K, none⟩ = some (.string (bs q)) := hcell
   generalize bs q = u at hcell he he2
   clear hqe hK HSL
   go_enter Tryz.func222, Tryz.ntmps222
   go_wp2_with fail
   refine (HSP.out).mono ?_
   rintro e w3 ⟨rfl, rfl⟩
   go_wp2_with fail
   go_ret
   exact ⟨_, rfl, HSL2.out, HBE.out⟩
 ·rw [if_neg (fun a => h1 (by have := HN.out; omega))]
  have HSL2 := h_ HSL.out
  rw [<- HN.out] at HSL2
  clear hK HSL hcell
  go_enter Tryz.func222, Tryz.ntmps222
  go_wp2_with fail
  refine (HSP.out).mono ?_
  rintro e w3 ⟨rfl, rfl⟩
  go_wp2_with fail
  go_ret
  exact ⟨_, rfl, HSL2.out, HBE.out⟩

theorem parts_small {l p : Bytes} (h : p ∈ partsF l) : p.length <= l.length := (cutC_piece 46 l p (parts_mem h)).1
theorem ends_any (l : Bytes) (w : World) (hl : l.length <= 102400000) (hE : Env w) : Calls Tryz.prog 213 #[.string (bs l)] w fun e w' => e = .returned (.bool (endsF l)) ∧ Below w.heap.size w w' := by
 have hpa := parts_any l w hl hE
 have hsm := fun p (h : p ∈ partsF l) => parts_small h
 have hpn := parts_len l
 have hef : endsF l = lastF ((partsF l).getLast (parts_ne l)) := rfl
 have hne := parts_ne l
 rw [hef]
 clear hef
 have hla : ∀ (ps : List Bytes) (h : ps ≠ []) (K : Nat) (hK : ps.length = K + 1), ps.getLast h = ps[K]'(by omega) := fun ps h K hK => by rw [List.getLast_eq_getElem]; congr 1; omega
 obtain ⟨K, hK⟩ : ∃ K, (partsF l).length = K + 1 := ⟨(partsF l).length - 1, by have := List.length_pos_iff.mpr hne; omega⟩
 obtain ⟨q, hq0⟩ := ex_ ((partsF l).getLast (parts_ne l))
 have hqq := hq0
 rw [hla _ _ K hK] at hqq
 rw [<- hq0]
 clear hq0
 generalize partsF l = ps at hpa hsm hpn hne hK hqq
 have hq : q.length <= l.length := by rw [hqq]; exact hsm _ (List.getElem_mem _)
 have hKm : K <= 102400000 := by omega
 have hd := fun W => digits_any q 10 W (by omega) (by omega)
 have hn := fun W => fnum_any q W (by omega)
 have hlf : lastF q = ((if q = [] then none else dgsGo 10 4294967296 0 q).isSome || (numG 4294967296 q).isSome) := by
  unfold lastF
  by_cases h : q = []
  ·subst h; rfl
  ·rw [if_neg h, Bool.or_comm]
   congr 1
   cases dgsGo 10 4294967296 0 q <;> simp [h]
 rw [hlf]
 clear hlf hsm hpn hla
 generalize (if q = [] then none else dgsGo 10 4294967296 0 q) = o1 at hd
 generalize numG 4294967296 q = o2 at hn
 have hsl : ∀ (w2 : World) (v : Value), Sl w2.heap.size w2 v (ps.map S) -> ∃ b o c, v = .slice (some ⟨b, o, none⟩) (K + 1) c ∧ w2.cell? ⟨b, o + K, none⟩ = some (.string (bs q)) := by
  intro w2 v h
  obtain ⟨a, c, rfl⟩ := slice_val h
  rw [List.length_map, hK] at h ⊢
  obtain ⟨b, o, rfl, _, hc⟩ := strs_at h K (by omega)
  exact ⟨b, o, c, rfl, by rw [hqq]; exact hc⟩
 obtain ⟨N, hN⟩ := ex_ (K + 1)
 have hw1 : IntKind.i64.wrap (((K + 1 : Nat) : Int) - 1) = (K : Int) := by rw [IntWalk.i64_in _ (by omega)]; omega
 rw [<- hN] at hsl hw1
 have hKN : K < N := by omega
 have HSL := h_ hsl; clear hsl
 have HD := h_ hd; clear hd
 have HN := h_ hn; clear hn
 have HPA := h_ hpa; clear hpa
 obtain ⟨s, hs⟩ := ex_ (bs l)
 rw [<- hs] at HPA ⊢
 obtain ⟨u, hu⟩ := ex_ (bs q)
 rw [<- hu] at HSL HD HN
 clear hs hu hqq hK hN hq
 cases o1 with
 | some d =>
  go_enter Tryz.func213, Tryz.ntmps213
  go_wp2_with fail
  refine (HPA.out).mono ?_
  rintro e w2 ⟨v, rfl, hv, hb2⟩
  obtain ⟨b, o, c, rfl, hc⟩ := HSL.out w2 v hv
  have HB := h_ hb2; clear hb2 hv
  go_wp2_with (first
   | (go_at_call 223; refine (HD.out _).mono ?_; rintro e w2 ⟨rfl, hw2⟩; subst hw2)
   | fail)
  go_ret
  exact ⟨rfl, HB.out⟩
 | none =>
  rw [Option.isSome_none, Bool.false_or]
  go_enter Tryz.func213, Tryz.ntmps213
  go_wp2_with fail
  refine (HPA.out).mono ?_
  rintro e w2 ⟨v, rfl, hv, hb2⟩
  obtain ⟨b, o, c, rfl, hc⟩ := HSL.out w2 v hv
  have HB := h_ hb2; clear hb2 hv
  go_wp2_with (first
   | (go_at_call 223; refine (HD.out _).mono ?_; rintro e w2 ⟨rfl, hw2⟩; subst hw2)
   | (go_at_call 224; refine (HN.out _).mono ?_; rintro e w2 ⟨rfl, hw2⟩; subst hw2)
   | fail)
  go_ret
  exact ⟨rfl, HB.out⟩
theorem fp_one {C : Int} {i : Nat} {s : Int} {ps : List Bytes} {k : Nat} (h : k + 1 = ps.length) : fpGo C i s (ps.drop k) = match numG C (ps[k]'(by omega)) with | none => none | some n => if room i <= n then none else some (s + n) := by
 rw [List.drop_eq_getElem_cons (by omega), List.drop_of_length_le (by omega)]
 rfl
theorem fp_more {C : Int} {i : Nat} {s : Int} {ps : List Bytes} {k : Nat} (h : k + 1 < ps.length) : fpGo C i s (ps.drop k) = match numG C (ps[k]'(by omega)) with | none => none | some n => if 255 < n then none else fpGo C (i + 1) (s + n * room (i + 1)) (ps.drop (k + 1)) := by
 rw [List.drop_eq_getElem_cons (show k < ps.length by omega), List.drop_eq_getElem_cons h]
 rfl
abbrev RetU (o : Option Int) : Ending := .returned (.tuple #[.int .u32 (o.getD 0), .bool o.isSome])
theorem fparse_any (l : Bytes) (w : World) (hl : l.length <= 102400000) (hE : Env w) : Calls Tryz.prog 214 #[.string (bs l)] w fun e w' => e = RetU (fparse l) ∧ Below w.heap.size w w' := by
 have hpa := parts_any l w hl hE
 have hsm := fun p (h : p ∈ partsF l) => parts_small h
 have hpn := parts_len l
 have hne := parts_ne l
 unfold fparse fpF
 have hrg : ∀ v, (partsF l).length <= 4 -> fpGo 4294967296 0 0 (partsF l) = some v -> 0 <= v ∧ v < 4294967296 := fun v h h2 => fp_range _ 0 0 v hne (by omega) (by omega) (by decide) h2
 generalize partsF l = ps at hpa hsm hpn hne hrg
 obtain ⟨N, hN⟩ := ex_ (ps.length)
 have hN0 : N ≠ 0 := fun h => hne (List.eq_nil_of_length_eq_zero (by omega))
 have hsl : ∀ (w2 : World) (v : Value), Sl w2.heap.size w2 v (ps.map S) -> ∃ b o c, v = .slice (some ⟨b, o, none⟩) N c ∧ b < w2.heap.size ∧ ∀ k (hk : k < ps.length), w2.cell? ⟨b, o + k, none⟩ = some (.string (bs ps[k])) := by
  intro w2 v h
  obtain ⟨a, c, rfl⟩ := slice_val h
  rw [List.length_map, <- hN] at h
  obtain ⟨b, o, rfl, hb, hc⟩ := strs_at h 0 (by omega)
  refine ⟨b, o, c, by rw [List.length_map, <- hN], hb, fun k hk => ?_⟩
  obtain ⟨b', o', he, _, hc'⟩ := strs_at h k hk
  injection he with he; injection he with e1 e2
  rw [e1, e2]; exact hc'
 obtain ⟨s, hs⟩ := ex_ (bs l)
 rw [<- hs] at hpa ⊢
 clear hs hE
 have HSL := h_ hsl; clear hsl
 have HPA := h_ hpa; clear hpa
 have HSM := h_ hsm; clear hsm
 have HL := h_ hl; clear hl
 have HRG := h_ hrg; clear hrg
 rw [<- hN] at hpn ⊢
 have hNm : N <= 1024000000 := by have := HL.out; omega
 clear hpn hne
 by_cases h4 : 4 < N
 ·rw [if_pos h4]
  clear hN
  go_enter Tryz.func214, Tryz.ntmps214
  go_wp2_with fail
  refine (HPA.out).mono ?_
  rintro e w2 ⟨v, rfl, hv, hb2⟩
  obtain ⟨b, o, c, rfl, hb, hc⟩ := HSL.out w2 v hv
  have HB := h_ hb2; clear hb2 hv hc
  go_wp2_with fail
  go_ret2
  exact ⟨rfl, HB.out⟩
 ·rw [if_neg h4]
  have HN := h_ hN; clear hN
  obtain ⟨R, hR⟩ := ex_ (fpGo 4294967296 0 0 ps)
  rw [<- hR]
  have hrr : ∀ v, R = some v -> 0 <= v ∧ v < 4294967296 := fun v h => HRG.out v (by rw [<- HN.out]; omega) (by rw [<- hR]; exact h)
  have HR := h_ hR; clear hR
  have HRR := h_ hrr; clear hrr HRG
  go_enter Tryz.func214, Tryz.ntmps214
  go_wp2_with fail
  refine (HPA.out).mono ?_
  rintro e w2 ⟨v, rfl, hv, hb2⟩
  obtain ⟨b, o, c, rfl, hb, hc⟩ := HSL.out w2 v hv
  have HB := h_ hb2; clear hb2 hv
  have HC := h_ hc; clear hc
  go_wp2_with fail
  go_loopw [5, 17] (fun sv iv wr => ∃ (k : Nat) (n : Int), k <= N ∧ iv = .int .i64 k ∧ sv = .int .i64 n ∧ Hid (fpGo 4294967296 k n (ps.drop k) = R) ∧ 0 <= n ∧ n <= 4294967296 ∧ (k < N -> n + room k <= 4294967296) ∧ w2 = wr) (fun _ i _ => N - (intOf i).toNat)
  case atStart => exact ⟨0, 0, by omega, by simp, by simp, HR.out.symm, by omega, by omega, fun _ => by decide, rfl⟩
  case round =>
   obtain ⟨k, n, hk, rfl, rfl, hf, hn0, hn1, hn2, rfl⟩ := hrel
   by_cases hlt : k < N
   ·have hkl : k < ps.length := by have := HN.out; omega
    have hcell := HC.out k hkl
    have hnm := fun W => fnum_any ps[k] W (by have := HSM.out ps[k] (List.getElem_mem hkl); have := HL.out; omega)
    have hge := fun v h => num_ge (C := 4294967296) (by decide) (s := ps[k]'hkl) (v := v) h
    have hf1 := hf.out
    by_cases hlast : k + 1 = N
    ·rw [fp_one (by have := HN.out; omega)] at hf1
     generalize numG 4294967296 ps[k] = O at hnm hge hf1
     generalize bs ps[k] = u at hcell hnm
     have HNM := h_ hnm; clear hnm hf
     cases O with
     | none =>
      have HF := h_ (show none = R from hf1); clear hf1 hge
      have hw1 : IntKind.i64.wrap ((N : Int) - 1) = (k : Int) := by rw [IntWalk.i64_in _ (by omega)]; omega
      go_wp2_with (first
       | (go_at_call 224; refine (HNM.out _).mono ?_; rintro e w3 ⟨rfl, hw3⟩; subst hw3)
       | fail)
      go_ret2
      exact ⟨by rw [<- HF.out]; rfl, HB.out⟩
     | some m =>
      have hm := hge m rfl
      have HF := h_ (show (if room k <= m then none else some (n + m)) = R from hf1); clear hf1 hge
      have hw1 : IntKind.i64.wrap ((N : Int) - 1) = (k : Int) := by rw [IntWalk.i64_in _ (by omega)]; omega
      have hk4 : k = 0 ∨ k = 1 ∨ k = 2 ∨ k = 3 := by omega
      have hn2' := hn2 hlt
      have hws : IntKind.i64.wrap (n + m) = n + m := IntWalk.i64_in _ (by omega)
      by_cases hrm : room k <= m
      ·rw [if_pos hrm] at HF
       clear hn2 hn2'
       have HLAST := h_ hlast; clear hlast
       rcases hk4 with rfl | rfl | rfl | rfl
       all_goals
        simp only [room] at hrm
        try simp only [Nat.add_zero] at hcell
        go_wp2_with (first
         | (go_at_call 224; refine (HNM.out _).mono ?_; rintro e w3 ⟨rfl, hw3⟩; subst hw3)
         | fail)
        go_ret2
        exact ⟨by rw [<- HF.out]; rfl, HB.out⟩
      ·rw [if_neg hrm] at HF
       have hs2 : n + m <= 4294967296 := by omega
       have HR2 := h_ (show fpGo 4294967296 (k + 1) (n + m) (ps.drop (k + 1)) = R by rw [List.drop_of_length_le (by have := HN.out; omega)]; exact HF.out)
       have hkn : ¬ k + 1 < N := by omega
       clear hn2 hn2'
       have HLAST := h_ hlast; clear hlast
       have HKN := h_ hkn; clear hkn
       rcases hk4 with rfl | rfl | rfl | rfl
       all_goals
        simp only [room] at hrm
        try simp only [Nat.add_zero] at hcell
        go_wp2_with (first
         | (go_at_call 224; refine (HNM.out _).mono ?_; rintro e w3 ⟨rfl, hw3⟩; subst hw3)
         | fail)
        go_roundw
        case rel => exact ⟨_, n + m, (by have := HLAST.out; omega), by rfl, by rfl, HR2.out, by omega, by omega, fun h => absurd h HKN.out, by trivial⟩
        case measure => simp [intOf]; omega
    ·rw [fp_more (by have := HN.out; omega)] at hf1
     generalize numG 4294967296 ps[k] = O at hnm hge hf1
     generalize bs ps[k] = u at hcell hnm
     have HNM := h_ hnm; clear hnm hf
     have hw1 : IntKind.i64.wrap ((N : Int) - 1) = (N : Int) - 1 := by rw [IntWalk.i64_in _ (by omega)]
     have hnl : ¬ (k : Int) = (N : Int) - 1 := by omega
     cases O with
     | none =>
      have HF := h_ (show none = R from hf1); clear hf1 hge
      go_wp2_with (first
       | (go_at_call 224; refine (HNM.out _).mono ?_; rintro e w3 ⟨rfl, hw3⟩; subst hw3)
       | fail)
      go_ret2
      exact ⟨by rw [<- HF.out]; rfl, HB.out⟩
     | some m =>
      have hm := hge m rfl
      have HF := h_ (show (if 255 < m then none else fpGo 4294967296 (k + 1) (n + m * room (k + 1)) (ps.drop (k + 1))) = R from hf1); clear hf1 hge
      by_cases hm255 : 255 < m
      ·rw [if_pos hm255] at HF
       go_wp2_with (first
        | (go_at_call 224; refine (HNM.out _).mono ?_; rintro e w3 ⟨rfl, hw3⟩; subst hw3)
        | fail)
       go_ret2
       exact ⟨by rw [<- HF.out]; rfl, HB.out⟩
      ·rw [if_neg hm255] at HF
       have hk4 : k = 0 ∨ k = 1 ∨ k = 2 := by omega
       have hn2' := hn2 hlt
       clear hn2
       rcases hk4 with rfl | rfl | rfl
       ·simp only [room] at HF hn2'
        try simp only [Nat.add_zero] at hcell
        have hws1 : IntKind.i64.wrap (m * 16777216) = m * 16777216 := IntWalk.i64_in _ (by omega)
        have hws : IntKind.i64.wrap (n + m * 16777216) = n + m * 16777216 := IntWalk.i64_in _ (by omega)
        go_wp2_with (first
         | (go_at_call 224; refine (HNM.out _).mono ?_; rintro e w3 ⟨rfl, hw3⟩; subst hw3)
         | fail)
        have hn3 : n + m * 16777216 <= 4294967296 ∧ (1 < N -> n + m * 16777216 + room (1) <= 4294967296) := ⟨by omega, fun _ => by show _ + _ + 16777216 <= _; omega⟩
        go_roundw
        case rel => exact ⟨1, n + m * 16777216, by omega, by rfl, by rfl, HF.out, by omega, hn3.1, hn3.2, by trivial⟩
        case measure => simp [intOf]; omega
       ·simp only [room] at HF hn2'
        try simp only [Nat.add_zero] at hcell
        have hws1 : IntKind.i64.wrap (m * 65536) = m * 65536 := IntWalk.i64_in _ (by omega)
        have hws : IntKind.i64.wrap (n + m * 65536) = n + m * 65536 := IntWalk.i64_in _ (by omega)
        go_wp2_with (first
         | (go_at_call 224; refine (HNM.out _).mono ?_; rintro e w3 ⟨rfl, hw3⟩; subst hw3)
         | fail)
        have hn3 : n + m * 65536 <= 4294967296 ∧ (2 < N -> n + m * 65536 + room (2) <= 4294967296) := ⟨by omega, fun _ => by show _ + _ + 65536 <= _; omega⟩
        go_roundw
        case rel => exact ⟨2, n + m * 65536, by omega, by rfl, by rfl, HF.out, by omega, hn3.1, hn3.2, by trivial⟩
        case measure => simp [intOf]; omega
       ·simp only [room] at HF hn2'
        try simp only [Nat.add_zero] at hcell
        have hws1 : IntKind.i64.wrap (m * 256) = m * 256 := IntWalk.i64_in _ (by omega)
        have hws : IntKind.i64.wrap (n + m * 256) = n + m * 256 := IntWalk.i64_in _ (by omega)
        go_wp2_with (first
         | (go_at_call 224; refine (HNM.out _).mono ?_; rintro e w3 ⟨rfl, hw3⟩; subst hw3)
         | fail)
        have hn3 : n + m * 256 <= 4294967296 ∧ (3 < N -> n + m * 256 + room (3) <= 4294967296) := ⟨by omega, fun _ => by show _ + _ + 256 <= _; omega⟩
        go_roundw
        case rel => exact ⟨3, n + m * 256, by omega, by rfl, by rfl, HF.out, by omega, hn3.1, hn3.2, by trivial⟩
        case measure => simp [intOf]; omega
   ·obtain rfl : k = N := by omega
    have hf1 := hf.out
    rw [List.drop_of_length_le (by have := HN.out; omega)] at hf1
    have hfs : some n = R := hf1
    have hnr := HRR.out n hfs.symm
    have hwr : IntKind.u32.wrap n = n := by rw [IntKind.wrap_u32]; omega
    have HF := h_ hfs; clear hf hf1 hfs
    clear hn2
    go_wp2_with fail
    go_ret2
    exact ⟨by rw [<- HF.out]; rfl, HB.out⟩

theorem strs_snoc (o : List Bytes) (p : Bytes) : Strs (o ++ [p]) = Strs o ++ [.string (bs p)] := by simp
end Go.Proofs.YtpckaimpjccjhaaGreatDoor
