/- SixA SixB SixR SixC SixD SixE SixS PctF PctG: joined. -/
import Derived.Test.YtpckaimpjccjhaaGreatDoorGFouA
import Derived.Test.YtpckaimpjccjhaaGreatDoorGNumB
import Derived.Test.YtpckaimpjccjhaaGreatDoorGPctE
import Derived.BigQuiet
import Derived.Test.YtpckaimpjccjhaaGreatDoorGReg
set_option maxHeartbeats 40000000
namespace Go.Proofs.YtpckaimpjccjhaaGreatDoor
open Go.RowKit
set_option maxRecDepth 10000
def dgsN (b : Int) : Int -> Bytes -> Option Int
 | n, [] => some n
 | n, c :: t => if dgt (b2 c) b < 0 then none else dgsN b (n * b + dgt (b2 c) b) t
def pieceF (s : Bytes) : Option Int := if s = [] ∨ 4 < s.length then none else dgsN 16 0 s
def dc8F (s : Bytes) : Option Int :=
 if s = [] ∨ 3 < s.length ∨ (1 < s.length ∧ s.head? = some 48) then none
 else match dgsN 10 0 s with | none => none | some n => if 255 < n then none else some n
def fnL : List Bytes -> Option (Int × Int)
 | [p, q, r, t] => match dc8F p with | none => none | some a => match dc8F q with | none => none | some b => match dc8F r with | none => none | some c => match dc8F t with | none => none | some d => some (256 * a + b, 256 * c + d)
 | _ => none
def fnF (s : Bytes) : Option (Int × Int) := fnL (cutC 46 s)
def endP (nums : Bool) (t : Bytes) : Option (List Int) := if nums = true ∧ 46 ∈ t then (fnF t).map (fun v => [v.1, v.2]) else (pieceF t).map (fun n => [n])
def rowP (nums : Bool) : List Bytes -> Option (List Int)
 | [] => some []
 | [t] => endP nums t
 | t :: q :: r => match pieceF t with | none => none | some n => (rowP nums (q :: r)).map (n :: ·)
def rowF (nums : Bool) (s : Bytes) : Option (List Int) :=
 if s = [] then some [] else match rowP nums (cutC 58 s) with | none => none | some l => if 8 < l.length then none else some l
def cut2 : Bytes -> Option (Bytes × Bytes)
 | x :: y :: r => if x = 58 ∧ y = 58 then some ([], r) else (cut2 (y :: r)).map fun v => (x :: v.1, v.2)
 | _ => none
def sixPF (s : Bytes) : Option (List Int) :=
 match cut2 s with
 | none => match rowF true s with | none => none | some l => if l.length = 8 then some l else none
 | some (a, b) => match rowF false a, rowF true b with
  | some l, some r => if 8 <= l.length + r.length then none else some (l ++ List.replicate (8 - l.length - r.length) 0 ++ r)
  | _, _ => none
theorem dgsN_range (b : Int) (hb : 1 <= b) (hd : ∀ c, dgt c b < b) : ∀ (l : Bytes) (n v : Int) (m : Nat), 0 <= n -> n < b ^ m -> dgsN b n l = some v -> 0 <= v ∧ v < b ^ (m + l.length)
 | [], n, v, m, h, h2, e => by unfold dgsN at e; injection e with e; subst e; exact ⟨h, by simpa using h2⟩
 | c :: t, n, v, m, h, h2, e => by
  unfold dgsN at e
  split at e
  ·cases e
  ·next hc =>
   have h3 := Int.mul_nonneg h (show 0 <= b by omega)
   have h4 : (n + 1) * b <= b ^ m * b := Int.mul_le_mul_of_nonneg_right (by omega) (by omega)
   rw [Int.add_mul, Int.one_mul] at h4
   have h5 := hd (b2 c)
   have := dgsN_range b hb hd t _ v (m + 1) (by omega) (by rw [Int.pow_succ]; omega) e
   rw [show m + 1 + t.length = m + (c :: t).length by simp; omega] at this
   exact this
theorem dgt10_lt (c : Int) : dgt c 10 < 10 := by unfold dgt; simp only; split <;> omega
theorem piece_range {t : Bytes} {n : Int} (h : pieceF t = some n) : 0 <= n ∧ n < 65536 := by
 unfold pieceF at h
 split at h
 ·cases h
 ·next hc =>
  have := dgsN_range 16 (by omega) dgt_lt t 0 n 0 (by omega) (by decide) h
  refine ⟨this.1, ?_⟩
  have h4 : t.length = 1 ∨ t.length = 2 ∨ t.length = 3 ∨ t.length = 4 := by
   have : t.length ≠ 0 := fun e => hc (.inl (List.eq_nil_of_length_eq_zero e))
   omega
  have h2 := this.2
  rcases h4 with e | e | e | e <;> rw [e] at h2 <;> simp at h2 <;> omega
theorem dec_range {t : Bytes} {n : Int} (h : dc8F t = some n) : 0 <= n ∧ n < 256 := by
 unfold dc8F at h
 split at h
 ·cases h
 ·cases hd : dgsN 10 0 t with
  | none => rw [hd] at h; cases h
  | some v =>
   rw [hd] at h
   dsimp only at h
   split at h
   ·cases h
   ·injection h with h
    have := dgsN_range 10 (by omega) dgt10_lt t 0 v 0 (by omega) (by decide) hd
    omega
theorem fnL_range {l : List Bytes} {v : Int × Int} (h : fnL l = some v) : (0 <= v.1 ∧ v.1 < 65536) ∧ (0 <= v.2 ∧ v.2 < 65536) := by
 unfold fnL at h
 split at h
 ·next p q r t =>
  cases ha : dc8F p with
  | none => rw [ha] at h; cases h
  | some a =>
   cases hb : dc8F q with
   | none => rw [ha, hb] at h; cases h
   | some b =>
    cases hc : dc8F r with
    | none => rw [ha, hb, hc] at h; cases h
    | some c =>
     cases hd : dc8F t with
     | none => rw [ha, hb, hc, hd] at h; cases h
     | some d =>
      rw [ha, hb, hc, hd] at h
      injection h with h
      subst h
      have := dec_range ha
      have := dec_range hb
      have := dec_range hc
      have := dec_range hd
      constructor <;> dsimp only <;> omega
 ·cases h
theorem endP_range {nums : Bool} {t : Bytes} {l : List Int} (h : endP nums t = some l) : (∀ n ∈ l, 0 <= n ∧ n < 65536) ∧ l.length <= 2 := by
 unfold endP at h
 split at h
 ·obtain ⟨v, hv, rfl⟩ := Option.map_eq_some_iff.mp h
  have := fnL_range hv
  exact ⟨by simp; omega, by simp⟩
 ·obtain ⟨v, hv, rfl⟩ := Option.map_eq_some_iff.mp h
  have := piece_range hv
  exact ⟨by simp; omega, by simp⟩
theorem rowP_range (nums : Bool) : ∀ (ps : List Bytes) (l : List Int), rowP nums ps = some l -> ∀ n ∈ l, 0 <= n ∧ n < 65536
 | [], l, h => by unfold rowP at h; injection h with h; subst h; simp
 | [t], l, h => by unfold rowP at h; exact (endP_range h).1
 | t :: q :: r, l, h => by
  unfold rowP at h
  cases hp : pieceF t with
  | none => rw [hp] at h; cases h
  | some n =>
   rw [hp] at h
   obtain ⟨v, hv, rfl⟩ := Option.map_eq_some_iff.mp h
   intro x hx
   rcases List.mem_cons.mp hx with rfl | hx
   ·exact piece_range hp
   ·exact rowP_range nums (q :: r) v hv x hx
theorem rowF_range {nums : Bool} {s : Bytes} {l : List Int} (h : rowF nums s = some l) : (∀ n ∈ l, 0 <= n ∧ n < 65536) ∧ l.length <= 8 := by
 unfold rowF at h
 split at h
 ·injection h with h; subst h; simp
 ·cases hr : rowP nums (cutC 58 s) with
  | none => rw [hr] at h; cases h
  | some v =>
   rw [hr] at h
   dsimp only at h
   split at h
   ·cases h
   ·injection h with h; subst h
    exact ⟨rowP_range _ _ _ hr, by omega⟩
theorem sixP_range {s : Bytes} {l : List Int} (h : sixPF s = some l) : l.length = 8 ∧ ∀ n ∈ l, 0 <= n ∧ n < 65536 := by
 unfold sixPF at h
 split at h
 ·cases hr : rowF true s with
  | none => rw [hr] at h; cases h
  | some v =>
   rw [hr] at h
   dsimp only at h
   split at h
   ·next h8 => injection h with h; subst h; exact ⟨h8, (rowF_range hr).1⟩
   ·cases h
 ·next a b hc =>
  split at h
  ·next l' r' hl hr =>
   split at h
   ·cases h
   ·next h8 =>
    injection h with h; subst h
    have h1 := rowF_range hl
    have h2 := rowF_range hr
    refine ⟨by simp; omega, fun n hn => ?_⟩
    rcases List.mem_append.mp hn with hn | hn
    ·rcases List.mem_append.mp hn with hn | hn
     ·exact h1.1 n hn
     ·have := List.eq_of_mem_replicate hn; omega
    ·exact h2.1 n hn
  ·cases h

theorem lcut_cons (b : UInt8) (l m : Bytes) : Lib.cut (b :: l) m = if m.isPrefixOf (b :: l) then ([], (b :: l).drop m.length, true) else if (Lib.cut l m).2.2 = true then (b :: (Lib.cut l m).1, (Lib.cut l m).2.1, true) else (b :: l, [], false) := by
 have hge := Lib.index_ge l m
 have e : Lib.index (b :: l) m = if m.isPrefixOf (b :: l) = true then 0 else if Lib.index l m = -1 then -1 else Lib.index l m + 1 := by
  rw [Lib.index]; simp only [beq_iff_eq]
 by_cases h : m.isPrefixOf (b :: l) = true
 ·rw [if_pos h] at e ⊢
  unfold Lib.cut
  rw [e]
  simp
 ·rw [if_neg h] at e ⊢
  by_cases h1 : Lib.index l m = -1
  ·rw [if_pos h1] at e
   have e1 : Lib.cut l m = (l, [], false) := by unfold Lib.cut; rw [h1]; rfl
   have e2 : Lib.cut (b :: l) m = (b :: l, [], false) := by unfold Lib.cut; rw [e]; rfl
   rw [e1, e2]; rfl
  ·rw [if_neg h1] at e
   have e1 : Lib.cut l m = (l.take (Lib.index l m).toNat, l.drop ((Lib.index l m).toNat + m.length), true) := by unfold Lib.cut; rw [if_pos (by omega)]
   have e2 : Lib.cut (b :: l) m = ((b :: l).take (Lib.index l m + 1).toNat, (b :: l).drop ((Lib.index l m + 1).toNat + m.length), true) := by unfold Lib.cut; rw [e, if_pos (by omega)]
   have e3 : (Lib.index l m + 1).toNat = (Lib.index l m).toNat + 1 := by omega
   rw [e1, e2, e3, List.take_succ_cons, Nat.add_right_comm, List.drop_succ_cons]
   rfl
theorem cut2_two (x y : UInt8) (r : Bytes) : cut2 (x :: y :: r) = if x = 58 ∧ y = 58 then some ([], r) else (cut2 (y :: r)).map fun v => (x :: v.1, v.2) := rfl
theorem lcut_no {c : UInt8} : ∀ {s : Bytes}, c ∉ s -> Lib.cut s [c] = (s, [], false)
 | [], _ => rfl
 | b :: l, h => by
  have hb : ¬ b = c := fun e => h (by simp [e])
  rw [lcut_cons, lcut_no (fun a => h (List.mem_cons_of_mem _ a)), if_neg (by simp [List.isPrefixOf]; exact fun e => hb e.symm), if_neg (by simp)]
theorem lcut_yes {c : UInt8} : ∀ {s : Bytes}, c ∈ s -> ∃ p r, s = p ++ c :: r ∧ c ∉ p ∧ Lib.cut s [c] = (p, r, true)
 | [], h => absurd h (by simp)
 | b :: l, h => by
  by_cases hb : b = c
  ·subst hb
   exact ⟨[], l, rfl, by simp, by rw [lcut_cons, if_pos (by simp [List.isPrefixOf])]; rfl⟩
  ·obtain ⟨p, r, h1, h2, h3⟩ := lcut_yes (s := l) (by
    rcases List.mem_cons.mp h with e | e
    ·exact absurd e.symm hb
    ·exact e)
   refine ⟨b :: p, r, by rw [h1]; rfl, ?_, ?_⟩
   ·intro e
    rcases List.mem_cons.mp e with e | e
    ·exact hb e.symm
    ·exact h2 e
   ·rw [lcut_cons, h3, if_neg (by simp [List.isPrefixOf]; exact fun e => hb e.symm), if_pos rfl]
theorem lcut_two : ∀ s : Bytes, Lib.cut s [58, 58] = match cut2 s with | none => (s, [], false) | some v => (v.1, v.2, true)
 | [] => rfl
 | [x] => by
  rw [lcut_cons, if_neg (by simp [List.isPrefixOf])]
  rfl
 | x :: y :: r => by
  have ih := lcut_two (y :: r)
  rw [lcut_cons, ih, cut2_two]
  by_cases h : x = 58 ∧ y = 58
  ·obtain ⟨rfl, rfl⟩ := h
   rw [if_pos (by simp [List.isPrefixOf]), if_pos ⟨rfl, rfl⟩]
   rfl
  ·rw [if_neg h, if_neg]
   ·cases cut2 (y :: r) <;> simp
   ·simp [List.isPrefixOf]
    exact fun a b => h ⟨a.symm, b.symm⟩
theorem scut_any (l m : Bytes) (w : World) (hl : l.length <= 1024000000) (hE : Env w) : Calls Tryz.prog 48 #[.string (bs l), .string (bs m)] w fun e w' => e = .returned (.tuple #[S (Lib.cut l m).1, S (Lib.cut l m).2.1, .bool (Lib.cut l m).2.2]) ∧ Below w.heap.size w w' := by
 obtain ⟨_, M, hM⟩ := hE
 have h := Any.strings_Cut Tryz.laysCutAt (bs l) (bs m) M w (by rw [bs_size]; omega) hM
 rw [show (bs l).data.toList = l from ls_bs l, show (bs m).data.toList = m from ls_bs m] at h
 refine h.mono ?_
 rintro e w' ⟨rfl, n, rfl⟩
 exact ⟨rfl, drewN_below (Below.refl _ _) n⟩
abbrev NoP : Ending := .panicked [{ v := .iface 214 (.agg #[]), recovered := false }]
def decE : Option Int -> Ending | some n => .returned (.int .i64 n) | none => NoP
def pieE : Option Int -> Ending | some n => .returned (.int .u16 n) | none => NoP
theorem dgsN_step (b n : Int) {l : Bytes} {k : Nat} (h : k < l.length) : dgsN b n (l.drop k) = if dgt (b2 l[k]) b < 0 then none else dgsN b (n * b + dgt (b2 l[k]) b) (l.drop (k + 1)) := by
 rw [List.drop_eq_getElem_cons h]; rfl
theorem decimal_any (l : Bytes) (w : World) (hl : l.length <= 1024000000) : Calls Tryz.prog 236 #[.string (bs l)] w fun e w' => e = decE (dc8F l) ∧ w' = w := by
 obtain ⟨R, hR⟩ := ex_ (dc8F l)
 rw [<- hR]
 unfold dc8F at hR
 obtain ⟨s, hs⟩ := ex_ (bs l)
 have hsz : s.size = l.length := by rw [hs, bs_size]
 have hby : ∀ k (hk : k < s.size) (hk2 : k < l.length), ((s[k]'hk).toNat : Int) = b2 l[k] := fun k hk hk2 => str_at hs hk hk2
 have hue : (s.toList = []) ↔ l = [] := by rw [hs, toList_bs]
 rw [<- hs]
 clear hs
 obtain ⟨N, hN⟩ := ex_ (s.size)
 have hsN : s.size = N := hN.symm
 have hNm : N <= 1024000000 := by omega
 have hNl : N = l.length := by omega
 clear hN hsz hl
 by_cases hnil : l = []
 ·rw [if_pos (.inl hnil)] at hR
  have he2 := hue.mpr hnil
  have he : s.toList.isEmpty = true := by rw [he2]; rfl
  clear hue hby hNl
  have HR := h_ hR; clear hR
  go_enter Tryz.func236, Tryz.ntmps236
  go_wp2_with fail
  exact ⟨rfl, by rw [HR.out]; rfl, rfl⟩
 have he2 : ¬ s.toList = [] := fun h => hnil (hue.mp h)
 have he : s.toList.isEmpty = false := by simpa using he2
 clear hue
 by_cases h3 : 3 < N
 ·rw [if_pos (.inr (.inl (by omega)))] at hR
  clear hby hNl
  have HR := h_ hR; clear hR
  go_enter Tryz.func236, Tryz.ntmps236
  go_wp2_with fail
  exact ⟨rfl, by rw [HR.out]; rfl, rfl⟩
 have hN0 : 0 < N := by have : l.length ≠ 0 := fun e => hnil (List.eq_nil_of_length_eq_zero e); omega
 have hs0 : 0 < s.size := by rw [hsN]; exact hN0
 have hx0 := hby 0 hs0 (by omega)
 by_cases hz : 1 < N ∧ b2 (l[0]'(by omega)) = 48
 ·rw [if_pos (.inr (.inr ⟨by omega, by
   rw [List.head?_eq_getElem?, List.getElem?_eq_getElem (by omega)]
   exact congrArg some (b2_inj (y := 48) (hz.2.trans (by decide)))⟩))] at hR
  rw [hz.2] at hx0
  obtain ⟨h1, -⟩ := hz
  clear hby hNl
  have HR := h_ hR; clear hR
  go_enter Tryz.func236, Tryz.ntmps236
  go_wp2_with fail
  exact ⟨rfl, by rw [HR.out]; rfl, rfl⟩
 rw [if_neg (by
  rintro (h | h | ⟨h, h'⟩)
  ·exact hnil h
  ·omega
  ·refine hz ⟨by omega, ?_⟩
   rw [List.head?_eq_getElem?, List.getElem?_eq_getElem (by omega)] at h'
   injection h' with h'
   rw [h']; decide)] at hR
 obtain ⟨X, hX⟩ := ex_ (b2 (l[0]'(by omega)))
 rw [<- hX] at hx0 hz
 have hz1 : 1 < N -> (X == 48) = false := fun h => by simp; exact fun e => hz ⟨h, e⟩
 clear hX hz
 have HR := h_ hR; clear hR
 have HBY := h_ hby; clear hby
 have HSZ := h_ hNl; clear hNl
 have HNIL := h_ hnil; clear hnil
 obtain ⟨D0, hD0⟩ := ex_ (dgsN 10 0 l)
 have hr := HR.out
 rw [<- hD0] at hr
 have HR := h_ hr; clear hr
 have HD := h_ hD0; clear hD0
 have hpow : ∀ k : Nat, k <= 3 -> (10 : Int) ^ k <= 1000 := by
  intro k hk
  have : k = 0 ∨ k = 1 ∨ k = 2 ∨ k = 3 := by omega
  rcases this with rfl | rfl | rfl | rfl <;> decide
 have HPW := h_ hpow; clear hpow
 by_cases h1N : 1 < N
 ·have hz2 := hz1 h1N
  clear hz1
  go_enter Tryz.func236, Tryz.ntmps236
  go_wp2_with fail
  go_loopw [3, 27] (fun nv iv wr => ∃ (k : Nat) (n : Int), k <= N ∧ iv = .int .i64 k ∧ nv = .int .i64 n ∧ Hid (dgsN 10 n (l.drop k) = D0) ∧ 0 <= n ∧ n < 10 ^ k ∧ w = wr) (fun _ i _ => N - (intOf i).toNat)
  case atStart => exact ⟨0, 0, Nat.zero_le _, by simp, by simp, HD.out.symm, by omega, by decide, rfl⟩
  case round =>
   obtain ⟨k, n, hk, rfl, rfl, hd, hn0, hn1, rfl⟩ := hrel
   have hp := HPW.out k (by omega)
   by_cases hlt : k < N
   ·have hku : k < s.size := by rw [hsN]; exact hlt
    have hkl : k < l.length := by have := HSZ.out; omega
    have hx := HBY.out k hku hkl
    have hst := dgsN_step 10 n hkl
    rw [hd.out] at hst
    have hr := b2_lt (l[k]'hkl)
    have hda := fun W => digitA_any (b2 (l[k]'hkl)) 10 W hr (by omega)
    have hlo := dgt10_lt (b2 (l[k]'hkl))
    obtain ⟨D, hD⟩ := ex_ (dgt (b2 (l[k]'hkl)) 10)
    rw [<- hD] at hst hda hlo
    clear hD
    generalize b2 (l[k]'hkl) = Y at hx hr hda
    have HDA := h_ hda; clear hda hd
    by_cases hD0 : D < 0
    ·rw [if_pos hD0] at hst
     have hr := HR.out
     rw [hst] at hr
     have HST := h_ hr; clear hst hr
     have HN1 := h_ hn1; clear hn1 hp
     go_wp2_with (first | (go_at_call 92; refine (HDA.out _).mono ?_; rintro e w2 ⟨rfl, hw2⟩; subst hw2) | fail)
     exact ⟨rfl, by rw [HST.out]; rfl, rfl⟩
    ·rw [if_neg hD0] at hst
     have hn2 : n * 10 + D < 10 ^ (k + 1) := by rw [Int.pow_succ]; omega
     have hw1 : IntKind.i64.wrap (n * 10) = n * 10 := IntWalk.i64_in _ (by omega)
     have hw2 : IntKind.i64.wrap (n * 10 + D) = n * 10 + D := IntWalk.i64_in _ (by omega)
     have HST := h_ hst; clear hst
     have HN1 := h_ hn1; clear hn1 hp
     have HN2 := h_ hn2; clear hn2
     go_wp2_with (first | (go_at_call 92; refine (HDA.out _).mono ?_; rintro e w2 ⟨rfl, hw2⟩; subst hw2) | fail)
     go_roundw
     case rel => exact ⟨k + 1, n * 10 + D, by omega, by simp, by simp; try omega, HST.out.symm, by omega, HN2.out, by trivial⟩
     case measure => simp [intOf]; omega
   ·obtain rfl : k = N := by omega
    have hdr : l.drop k = [] := List.drop_eq_nil_of_le (by have := HSZ.out; omega)
    have hd1 := hd.out
    rw [hdr] at hd1
    have hr := HR.out
    rw [show D0 = some n from hd1.symm] at hr
    have HST := h_ (show R = if 255 < n then none else some n from hr); clear hd1 hr hd
    clear hn1 hp
    by_cases h255 : 255 < n
    ·rw [if_pos h255] at HST
     go_wp2_with fail
     exact ⟨rfl, by rw [HST.out]; rfl, rfl⟩
    ·rw [if_neg h255] at HST
     go_wp2_with fail
     go_ret
     exact ⟨by rw [HST.out]; rfl, rfl⟩
 ·clear hz1
  go_enter Tryz.func236, Tryz.ntmps236
  go_wp2_with fail
  go_loopw [3, 27] (fun nv iv wr => ∃ (k : Nat) (n : Int), k <= N ∧ iv = .int .i64 k ∧ nv = .int .i64 n ∧ Hid (dgsN 10 n (l.drop k) = D0) ∧ 0 <= n ∧ n < 10 ^ k ∧ w = wr) (fun _ i _ => N - (intOf i).toNat)
  case atStart => exact ⟨0, 0, Nat.zero_le _, by simp, by simp, HD.out.symm, by omega, by decide, rfl⟩
  case round =>
   obtain ⟨k, n, hk, rfl, rfl, hd, hn0, hn1, rfl⟩ := hrel
   have hp := HPW.out k (by omega)
   by_cases hlt : k < N
   ·have hku : k < s.size := by rw [hsN]; exact hlt
    have hkl : k < l.length := by have := HSZ.out; omega
    have hx := HBY.out k hku hkl
    have hst := dgsN_step 10 n hkl
    rw [hd.out] at hst
    have hr := b2_lt (l[k]'hkl)
    have hda := fun W => digitA_any (b2 (l[k]'hkl)) 10 W hr (by omega)
    have hlo := dgt10_lt (b2 (l[k]'hkl))
    obtain ⟨D, hD⟩ := ex_ (dgt (b2 (l[k]'hkl)) 10)
    rw [<- hD] at hst hda hlo
    clear hD
    generalize b2 (l[k]'hkl) = Y at hx hr hda
    have HDA := h_ hda; clear hda hd
    by_cases hD0 : D < 0
    ·rw [if_pos hD0] at hst
     have hr := HR.out
     rw [hst] at hr
     have HST := h_ hr; clear hst hr
     have HN1 := h_ hn1; clear hn1 hp
     go_wp2_with (first | (go_at_call 92; refine (HDA.out _).mono ?_; rintro e w2 ⟨rfl, hw2⟩; subst hw2) | fail)
     exact ⟨rfl, by rw [HST.out]; rfl, rfl⟩
    ·rw [if_neg hD0] at hst
     have hn2 : n * 10 + D < 10 ^ (k + 1) := by rw [Int.pow_succ]; omega
     have hw1 : IntKind.i64.wrap (n * 10) = n * 10 := IntWalk.i64_in _ (by omega)
     have hw2 : IntKind.i64.wrap (n * 10 + D) = n * 10 + D := IntWalk.i64_in _ (by omega)
     have HST := h_ hst; clear hst
     have HN1 := h_ hn1; clear hn1 hp
     have HN2 := h_ hn2; clear hn2
     go_wp2_with (first | (go_at_call 92; refine (HDA.out _).mono ?_; rintro e w2 ⟨rfl, hw2⟩; subst hw2) | fail)
     go_roundw
     case rel => exact ⟨k + 1, n * 10 + D, by omega, by simp, by simp; try omega, HST.out.symm, by omega, HN2.out, by trivial⟩
     case measure => simp [intOf]; omega
   ·obtain rfl : k = N := by omega
    have hdr : l.drop k = [] := List.drop_eq_nil_of_le (by have := HSZ.out; omega)
    have hd1 := hd.out
    rw [hdr] at hd1
    have hr := HR.out
    rw [show D0 = some n from hd1.symm] at hr
    have HST := h_ (show R = if 255 < n then none else some n from hr); clear hd1 hr hd
    clear hn1 hp
    by_cases h255 : 255 < n
    ·rw [if_pos h255] at HST
     go_wp2_with fail
     exact ⟨rfl, by rw [HST.out]; rfl, rfl⟩
    ·rw [if_neg h255] at HST
     go_wp2_with fail
     go_ret
     exact ⟨by rw [HST.out]; rfl, rfl⟩

def RetM (o : Option Int) (e : Ending) : Prop := ∃ m, e = .returned (.tuple #[.int .i64 m, .bool o.isSome]) ∧ ∀ v, o = some v -> m = v
theorem RetM.mk {o : Option Int} {m : Int} {b : Bool} (h : (b = true ∧ o = some m) ∨ (b = false ∧ o = none)) : RetM o (.returned (.tuple #[.int .i64 m, .bool b])) := by
 rcases h with ⟨rfl, rfl⟩ | ⟨rfl, rfl⟩
 ·exact ⟨m, rfl, fun v h => by injection h⟩
 ·exact ⟨m, rfl, fun v h => by cases h⟩

theorem piece_any (l : Bytes) (w : World) (hl : l.length <= 1024000000) : Calls Tryz.prog 226 #[.string (bs l)] w fun e w' => e = pieE (pieceF l) ∧ w' = w := by
 obtain ⟨R, hR⟩ := ex_ (pieceF l)
 rw [<- hR]
 unfold pieceF at hR
 obtain ⟨s, hs⟩ := ex_ (bs l)
 have hsz : s.size = l.length := by rw [hs, bs_size]
 have hby : ∀ k (hk : k < s.size) (hk2 : k < l.length), ((s[k]'hk).toNat : Int) = b2 l[k] := fun k hk hk2 => str_at hs hk hk2
 have hue : (s.toList = []) ↔ l = [] := by rw [hs, toList_bs]
 rw [<- hs]
 clear hs
 obtain ⟨N, hN⟩ := ex_ (s.size)
 have hsN : s.size = N := hN.symm
 have hNm : N <= 1024000000 := by omega
 have hNl : N = l.length := by omega
 clear hN hsz hl
 by_cases hnil : l = []
 ·rw [if_pos (.inl hnil)] at hR
  have he2 := hue.mpr hnil
  have he : s.toList.isEmpty = true := by rw [he2]; rfl
  clear hue hby hNl
  have HR := h_ hR; clear hR
  go_enter Tryz.func226, Tryz.ntmps226
  go_wp2_with fail
  exact ⟨rfl, by rw [HR.out]; rfl, rfl⟩
 have he2 : ¬ s.toList = [] := fun h => hnil (hue.mp h)
 have he : s.toList.isEmpty = false := by simpa using he2
 clear hue
 by_cases h3 : 4 < N
 ·rw [if_pos (.inr (by omega))] at hR
  clear hby hNl
  have HR := h_ hR; clear hR
  go_enter Tryz.func226, Tryz.ntmps226
  go_wp2_with fail
  exact ⟨rfl, by rw [HR.out]; rfl, rfl⟩
 rw [if_neg (by
  rintro (h | h)
  ·exact hnil h
  ·omega)] at hR
 have HR := h_ hR; clear hR
 have HBY := h_ hby; clear hby
 have HSZ := h_ hNl; clear hNl
 have HNIL := h_ hnil; clear hnil
 obtain ⟨D0, hD0⟩ := ex_ (dgsN 16 0 l)
 have hr := HR.out
 rw [<- hD0] at hr
 have HR := h_ hr; clear hr
 have HD := h_ hD0; clear hD0
 have hpow : ∀ k : Nat, k <= 4 -> (16 : Int) ^ k <= 65536 := by
  intro k hk
  have : k = 0 ∨ k = 1 ∨ k = 2 ∨ k = 3 ∨ k = 4 := by omega
  rcases this with rfl | rfl | rfl | rfl | rfl <;> decide
 have HPW := h_ hpow; clear hpow
 go_enter Tryz.func226, Tryz.ntmps226
 go_wp2_with fail
 go_loopw [3, 17] (fun nv iv wr => ∃ (k : Nat) (n : Int), k <= N ∧ iv = .int .i64 k ∧ nv = .int .i64 n ∧ Hid (dgsN 16 n (l.drop k) = D0) ∧ 0 <= n ∧ n < 16 ^ k ∧ w = wr) (fun _ i _ => N - (intOf i).toNat)
 case atStart => exact ⟨0, 0, Nat.zero_le _, by simp, by simp, HD.out.symm, by omega, by decide, rfl⟩
 case round =>
  obtain ⟨k, n, hk, rfl, rfl, hd, hn0, hn1, rfl⟩ := hrel
  have hp := HPW.out k (by omega)
  by_cases hlt : k < N
  ·have hku : k < s.size := by rw [hsN]; exact hlt
   have hkl : k < l.length := by have := HSZ.out; omega
   have hx := HBY.out k hku hkl
   have hst := dgsN_step 16 n hkl
   rw [hd.out] at hst
   have hr := b2_lt (l[k]'hkl)
   have hda := fun W => digitA_any (b2 (l[k]'hkl)) 16 W hr (by omega)
   have hlo := dgt_lt (b2 (l[k]'hkl))
   obtain ⟨D, hD⟩ := ex_ (dgt (b2 (l[k]'hkl)) 16)
   rw [<- hD] at hst hda hlo
   clear hD
   generalize b2 (l[k]'hkl) = Y at hx hr hda
   have HDA := h_ hda; clear hda hd
   by_cases hD0 : D < 0
   ·rw [if_pos hD0] at hst
    have hr := HR.out
    rw [hst] at hr
    have HST := h_ hr; clear hst hr
    have HN1 := h_ hn1; clear hn1 hp
    go_wp2_with (first | (go_at_call 92; refine (HDA.out _).mono ?_; rintro e w2 ⟨rfl, hw2⟩; subst hw2) | fail)
    exact ⟨rfl, by rw [HST.out]; rfl, rfl⟩
   ·rw [if_neg hD0] at hst
    have hn2 : n * 16 + D < 16 ^ (k + 1) := by rw [Int.pow_succ]; omega
    have hw1 : IntKind.i64.wrap (n * 16) = n * 16 := IntWalk.i64_in _ (by omega)
    have hw2 : IntKind.i64.wrap (n * 16 + D) = n * 16 + D := IntWalk.i64_in _ (by omega)
    have HST := h_ hst; clear hst
    have HN1 := h_ hn1; clear hn1 hp
    have HN2 := h_ hn2; clear hn2
    go_wp2_with (first | (go_at_call 92; refine (HDA.out _).mono ?_; rintro e w2 ⟨rfl, hw2⟩; subst hw2) | fail)
    go_roundw
    case rel => exact ⟨k + 1, n * 16 + D, by omega, by simp, by simp; try omega, HST.out.symm, by omega, HN2.out, by trivial⟩
    case measure => simp [intOf]; omega
  ·obtain rfl : k = N := by omega
   have hdr : l.drop k = [] := List.drop_eq_nil_of_le (by have := HSZ.out; omega)
   have hd1 := hd.out
   rw [hdr] at hd1
   have hr := HR.out
   rw [show D0 = some n from hd1.symm] at hr
   have hwr : IntKind.u16.wrap n = n := by rw [IntKind.wrap_u16]; omega
   have HST := h_ (show R = some n from hr); clear hd1 hr hd
   clear hn1 hp
   go_wp2_with fail
   go_ret
   exact ⟨by rw [HST.out]; rfl, rfl⟩

def fnGo : Nat -> Int -> Bytes -> Option Int
 | 0, n, _ => some n
 | r + 1, n, s => if (Lib.cut s [46]).2.2 ≠ decide (0 < r) then none else match dc8F (Lib.cut s [46]).1 with | none => none | some d => fnGo r (n * 256 + d) (Lib.cut s [46]).2.1
def fnG2 : Nat -> Int -> List Bytes -> Option Int
 | 0, n, _ => some n
 | _ + 1, _, [] => none
 | r + 1, n, p :: ps => if (!ps.isEmpty) ≠ decide (0 < r) then none else match dc8F p with | none => none | some d => fnG2 r (n * 256 + d) ps
theorem fnGo_list : ∀ (r : Nat) (n : Int) (s : Bytes), fnGo r n s = fnG2 r n (cutC 46 s)
 | 0, _, _ => rfl
 | r + 1, n, s => by
  by_cases h : (46 : UInt8) ∈ s
  ·obtain ⟨p, t, h1, h2, h3⟩ := lcut_yes h
   obtain ⟨q, qs, hq⟩ := cutC_ne 46 t
   have e : cutC 46 s = p :: cutC 46 t := by rw [h1, cutC_app, cutC_none h2]; rfl
   unfold fnGo
   rw [e, h3]
   show _ = if (!(cutC 46 t).isEmpty) ≠ decide (0 < r) then none else match dc8F p with | none => none | some d => fnG2 r (n * 256 + d) (cutC 46 t)
   have e2 : (!(cutC 46 t).isEmpty) = true := by rw [hq]; rfl
   rw [e2]
   dsimp only
   split
   ·rfl
   ·cases dc8F p with
    | none => rfl
    | some d => exact fnGo_list r _ t
  ·have h3 := lcut_no h
   have e : cutC 46 s = [s] := cutC_none h
   unfold fnGo
   rw [e, h3]
   show _ = if (!([] : List Bytes).isEmpty) ≠ decide (0 < r) then none else match dc8F s with | none => none | some d => fnG2 r (n * 256 + d) []
   have e2 : (!([] : List Bytes).isEmpty) = false := rfl
   rw [e2]
   dsimp only
   by_cases hr : 0 < r
   ·rw [if_pos (by simp [hr]), if_pos (by simp [hr])]
   ·obtain rfl : r = 0 := by omega
    rw [if_neg (by simp), if_neg (by simp)]
    rfl
theorem fnG2_L (l : List Bytes) (hne : l ≠ []) : fnG2 4 0 l = (fnL l).map fun v => v.1 * 65536 + v.2 := by
 have h2 : ∀ r n p ps, fnG2 (r + 1) n (p :: ps) = if (!ps.isEmpty) ≠ decide (0 < r) then none else match dc8F p with | none => none | some d => fnG2 r (n * 256 + d) ps := fun _ _ _ _ => rfl
 match l, hne with
 | [], h => exact absurd rfl h
 | [p], _ => rw [h2]; rfl
 | [p, q], _ => rw [h2, if_neg (by simp)]; cases dc8F p <;> rfl
 | [p, q, r], _ =>
  rw [h2, if_neg (by simp)]
  cases dc8F p with
  | none => rfl
  | some a =>
   dsimp only
   rw [h2, if_neg (by simp)]
   cases dc8F q <;> rfl
 | [p, q, r, t], _ =>
  have e : fnL [p, q, r, t] = match dc8F p with | none => none | some a => match dc8F q with | none => none | some b => match dc8F r with | none => none | some c => match dc8F t with | none => none | some d => some (256 * a + b, 256 * c + d) := rfl
  rw [h2, if_neg (by simp), e]
  clear e
  cases dc8F p with
  | none => rfl
  | some a =>
   dsimp only
   rw [h2, if_neg (by simp)]
   cases dc8F q with
   | none => rfl
   | some b =>
    dsimp only
    rw [h2, if_neg (by simp)]
    cases dc8F r with
    | none => rfl
    | some c =>
     dsimp only
     rw [h2, if_neg (by simp)]
     cases dc8F t with
     | none => rfl
     | some d =>
      show some _ = some _
      congr 1
      dsimp only
      omega
 | p :: q :: r :: t :: u :: v, _ =>
  have e : fnL (p :: q :: r :: t :: u :: v) = none := rfl
  rw [h2, if_neg (by simp), e]
  cases dc8F p with
  | none => rfl
  | some a =>
   dsimp only
   rw [h2, if_neg (by simp)]
   cases dc8F q with
   | none => rfl
   | some b =>
    dsimp only
    rw [h2, if_neg (by simp)]
    cases dc8F r with
    | none => rfl
    | some c =>
     dsimp only
     rw [h2, if_pos (by simp)]
     rfl
theorem fnGo_F (s : Bytes) : fnGo 4 0 s = (fnF s).map fun v => v.1 * 65536 + v.2 := by
 rw [fnGo_list]
 exact fnG2_L _ (by obtain ⟨p, ps, h⟩ := cutC_ne 46 s; rw [h]; simp)
def fouE : Option (Int × Int) -> Ending | some v => .returned (.tuple #[.int .u16 v.1, .int .u16 v.2]) | none => NoP
theorem mask65535 (v : Nat) (hv : v < 4294967296) : bits BinOp.and IntKind.i64 (v : Int) 65535 = ((v % 65536 : Nat) : Int) := by
 have h := bits_mask .i64 63 (by decide) (fun n h0 h1 => IntWalk.i64_in _ (by omega)) 16 (by decide) (v : Int) (by omega) (by omega)
 have e : ((2 : Int) ^ 16 - 1) = 65535 := by decide
 have e2 : ((2 : Int) ^ 16) = 65536 := by decide
 rw [e, e2] at h
 rw [h]
 omega
theorem cut_rest (s m : Bytes) : (Lib.cut s m).2.1.length <= s.length ∧ (Lib.cut s m).1.length <= s.length := by
 unfold Lib.cut
 split
 ·simp [List.length_drop, List.length_take]; omega
 ·simp
theorem fournum_any (l : Bytes) (w : World) (hl : l.length <= 1024000000) (hE : Env w) : Calls Tryz.prog 225 #[.string (bs l)] w fun e w' => e = fouE (fnF l) ∧ Below w.heap.size w w' := by
 have hF := fnGo_F l
 have hrg : ∀ v, fnF l = some v -> (0 <= v.1 ∧ v.1 < 65536) ∧ (0 <= v.2 ∧ v.2 < 65536) := fun v h => fnL_range h
 obtain ⟨R, hR⟩ := ex_ (fnF l)
 rw [<- hR] at hF hrg ⊢
 clear hR
 obtain ⟨s, hs⟩ := ex_ (bs l)
 rw [<- hs]
 have HS := h_ hs; clear hs
 have HF := h_ hF; clear hF
 have HRG := h_ hrg; clear hrg
 have HEV := h_ hE; clear hE
 have HL := h_ hl; clear hl
 have hpow : ∀ k : Nat, k <= 3 -> (256 : Int) ^ k <= 16777216 := by
  intro k hk
  have : k = 0 ∨ k = 1 ∨ k = 2 ∨ k = 3 := by omega
  rcases this with rfl | rfl | rfl | rfl <;> decide
 have HPW := h_ hpow; clear hpow
 go_enter Tryz.func225, Tryz.ntmps225
 go_wp2_with fail
 go_loopw [0, 4, 9] (fun sv nv iv wr => ∃ (k : Nat) (n : Int) (t : Bytes), k <= 4 ∧ iv = .int .i64 k ∧ nv = .int .i64 n ∧ sv = .string (bs t) ∧ Hid (fnGo (4 - k) n t = R.map fun v => v.1 * 65536 + v.2) ∧ Hid (t.length <= l.length) ∧ 0 <= n ∧ Hid (n < 256 ^ k) ∧ Below w.heap.size w wr) (fun _ _ i _ => 4 - (intOf i).toNat)
 case atStart => exact ⟨0, 0, l, by omega, by simp, by simp, by rw [HS.out], HF.out, Nat.le_refl _, by omega, (by decide : (0 : Int) < 256 ^ 0), Below.refl _ _⟩
 case round =>
  obtain ⟨k, n, t, hk, rfl, rfl, rfl, hf, htl, hn0, hn1, hb⟩ := hrel
  have HB := h_ hb; clear hb
  by_cases hlt : k < 4
  ·have hcr := cut_rest t [46]
   have hcu := fun W (h : Below w.heap.size w W) => scut_any t [46] W (by have := htl.out; have := HL.out; omega) (HEV.out.below h)
   rw [show bs [46] = ⟨#[46]⟩ from rfl] at hcu
   have hf1 := hf.out
   rw [show 4 - k = (3 - k) + 1 by omega] at hf1
   unfold fnGo at hf1
   obtain ⟨c1, c2, c3, hc⟩ : ∃ c1 c2 c3, Lib.cut t [46] = (c1, c2, c3) := ⟨_, _, _, rfl⟩
   rw [hc] at hcu hf1 hcr
   dsimp only at hcu hf1 hcr
   have hl1 : c1.length <= 1024000000 := by have := htl.out; have := HL.out; omega
   have hl2 : c2.length <= l.length := by have := htl.out; omega
   have hdc := fun W => decimal_any c1 W hl1
   have HCU := h_ (hcu _ HB.out); clear hcu hc hf
   have HL2 := h_ hl2; clear hl2 hl1 hcr htl
   obtain ⟨u, hu⟩ := ex_ (bs t)
   rw [<- hu] at HCU
   rw [<- hu]
   clear hu
   have hk3 : k < 3 ∨ k = 3 := by omega
   have HN1 := h_ hn1.out; clear hn1
   have hp := HPW.out k (by omega)
   have hn3 : n < 16777216 := by have := HN1.out; omega
   have hn2 : ∀ d : Int, d < 256 -> n * 256 + d < 256 ^ (k + 1) := fun d hd => by rw [Int.pow_succ]; have := HN1.out; omega
   clear hp
   have hws1 : IntKind.i64.wrap (n * 256) = n * 256 := IntWalk.i64_in _ (by omega)
   have HN2 := h_ hn2; clear hn2
   cases c3 with
   | true =>
    rcases hk3 with hk3 | rfl
    ·rw [if_neg (by simp; omega)] at hf1
     have hk3' : (k : Int) < 3 := by omega
     cases hdd : dc8F c1 with
     | none =>
      rw [hdd] at hf1 hdc
      have hRn : R = none := by cases R with | none => rfl | some v => cases hf1
      have HRN := h_ hRn; clear hRn hf1
      change ∀ W, Calls _ _ _ W fun e w' => e = NoP ∧ w' = W at hdc
      have HDC := h_ hdc; clear hdc hdd
      go_wp2_with (first
     | (go_at_call 48; refine (HCU.out).mono ?_; rintro e w2 ⟨rfl, hb2⟩; have HB2 := h_ (HB.out.trans (hb2.mono HB.out.size)); clear hb2)
     | (go_at_call 236; refine (HDC.out _).mono ?_; rintro e w3 ⟨rfl, hw3⟩; subst hw3)
     | fail)
      exact ⟨rfl, by rw [HRN.out]; rfl, HB2.out⟩
     | some d =>
      rw [hdd] at hf1 hdc
      have hdr := dec_range hdd
      have HF2 := h_ (show fnGo (4 - (k + 1)) (n * 256 + d) c2 = R.map fun v => v.1 * 65536 + v.2 by rw [show 4 - (k + 1) = 3 - k by omega]; exact hf1); clear hf1
      change ∀ W, Calls _ _ _ W fun e w' => e = .returned (.int .i64 d) ∧ w' = W at hdc
      have HDC := h_ hdc; clear hdc hdd
      have hws2 : IntKind.i64.wrap (n * 256 + d) = n * 256 + d := IntWalk.i64_in _ (by omega)
      go_wp2_with (first
     | (go_at_call 48; refine (HCU.out).mono ?_; rintro e w2 ⟨rfl, hb2⟩; have HB2 := h_ (HB.out.trans (hb2.mono HB.out.size)); clear hb2)
     | (go_at_call 236; refine (HDC.out _).mono ?_; rintro e w3 ⟨rfl, hw3⟩; subst hw3)
     | fail)
      go_roundw
      case rel => exact ⟨k + 1, n * 256 + d, c2, by omega, by simp, by rfl, by rfl, HF2.out, HL2.out, by omega, HN2.out d hdr.2, HB2.out⟩
      case measure => simp [intOf]; omega
    ·rw [if_pos (by simp)] at hf1
     have hRn : R = none := by cases R with | none => rfl | some v => cases hf1
     have HRN := h_ hRn; clear hRn hf1 hdc
     go_wp2_with (first
     | (go_at_call 48; refine (HCU.out).mono ?_; rintro e w2 ⟨rfl, hb2⟩; have HB2 := h_ (HB.out.trans (hb2.mono HB.out.size)); clear hb2)
     | (go_at_call 236; refine (HDC.out _).mono ?_; rintro e w3 ⟨rfl, hw3⟩; subst hw3)
     | fail)
     exact ⟨rfl, by rw [HRN.out]; rfl, HB2.out⟩
   | false =>
    rcases hk3 with hk3 | rfl
    ·rw [if_pos (by simp; omega)] at hf1
     have hk3' : (k : Int) < 3 := by omega
     have hRn : R = none := by cases R with | none => rfl | some v => cases hf1
     have HRN := h_ hRn; clear hRn hf1 hdc
     go_wp2_with (first
     | (go_at_call 48; refine (HCU.out).mono ?_; rintro e w2 ⟨rfl, hb2⟩; have HB2 := h_ (HB.out.trans (hb2.mono HB.out.size)); clear hb2)
     | (go_at_call 236; refine (HDC.out _).mono ?_; rintro e w3 ⟨rfl, hw3⟩; subst hw3)
     | fail)
     exact ⟨rfl, by rw [HRN.out]; rfl, HB2.out⟩
    ·rw [if_neg (by simp)] at hf1
     cases hdd : dc8F c1 with
     | none =>
      rw [hdd] at hf1 hdc
      have hRn : R = none := by cases R with | none => rfl | some v => cases hf1
      have HRN := h_ hRn; clear hRn hf1
      change ∀ W, Calls _ _ _ W fun e w' => e = NoP ∧ w' = W at hdc
      have HDC := h_ hdc; clear hdc hdd
      go_wp2_with (first
     | (go_at_call 48; refine (HCU.out).mono ?_; rintro e w2 ⟨rfl, hb2⟩; have HB2 := h_ (HB.out.trans (hb2.mono HB.out.size)); clear hb2)
     | (go_at_call 236; refine (HDC.out _).mono ?_; rintro e w3 ⟨rfl, hw3⟩; subst hw3)
     | fail)
      exact ⟨rfl, by rw [HRN.out]; rfl, HB2.out⟩
     | some d =>
      rw [hdd] at hf1 hdc
      have hdr := dec_range hdd
      have HF2 := h_ (show fnGo (4 - (3 + 1)) (n * 256 + d) c2 = R.map fun v => v.1 * 65536 + v.2 from hf1); clear hf1
      change ∀ W, Calls _ _ _ W fun e w' => e = .returned (.int .i64 d) ∧ w' = W at hdc
      have HDC := h_ hdc; clear hdc hdd
      have hws2 : IntKind.i64.wrap (n * 256 + d) = n * 256 + d := IntWalk.i64_in _ (by omega)
      go_wp2_with (first
     | (go_at_call 48; refine (HCU.out).mono ?_; rintro e w2 ⟨rfl, hb2⟩; have HB2 := h_ (HB.out.trans (hb2.mono HB.out.size)); clear hb2)
     | (go_at_call 236; refine (HDC.out _).mono ?_; rintro e w3 ⟨rfl, hw3⟩; subst hw3)
     | fail)
      go_roundw
      case rel => exact ⟨3 + 1, n * 256 + d, c2, by omega, by rfl, by rfl, by rfl, HF2.out, HL2.out, by omega, HN2.out d hdr.2, HB2.out⟩
      case measure => simp [intOf]
  ·obtain rfl : k = 4 := by omega
   have hf1 := hf.out
   have hf2 : some n = R.map fun v => v.1 * 65536 + v.2 := hf1
   have hn4 : n < 4294967296 := hn1.out
   cases R with
   | none => cases hf2
   | some v =>
    injection hf2 with hf2
    replace hf2 : n = v.1 * 65536 + v.2 := hf2
    have hr := HRG.out v rfl
    obtain ⟨N, rfl⟩ : ∃ N : Nat, n = N := ⟨n.toNat, by omega⟩
    have hmk := mask65535 N (by omega)
    obtain ⟨a, ha⟩ := ex_ (v.1)
    obtain ⟨b, hb⟩ := ex_ (v.2)
    rw [<- ha, <- hb] at hr hf2
    have e1 : ((N % 65536 : Nat) : Int) = b := by omega
    rw [e1] at hmk
    have HV := h_ (show v = (a, b) by rw [ha, hb]); clear ha hb hf hf1 hn1 e1
    have hwa : IntKind.u16.wrap a = a := by rw [IntKind.wrap_u16]; omega
    have hwb : IntKind.u16.wrap b = b := by rw [IntKind.wrap_u16]; omega
    have hdv : (N : Int) / 65536 = a := by omega
    have HF2 := h_ hf2; clear hf2
    go_wp2_with fail
    go_ret2
    exact ⟨by rw [HV.out]; rfl, HB.out⟩

abbrev U16s (l : List Int) : List Value := l.map (Value.int .u16)
theorem u16_info : (Tryz.prog.info? 24).map (fun i => (i.zero, i.size, i.bytes)) = some (some (.int .u16 0), 1, 2) := by kernel_rfl
theorem push2 {P : Program} {ops : Array Oper} {rest : List Oper} {o : Oper} {a : Act} {Q : Exit -> Act -> World -> Prop} (hgd : o.guard = none) (s x : Operand) (t : TypeId)
  (ho : o.op = .call { callee := .builtin .append, args := #[s, x], argTypes := #[t, t] })
  (base : Nat) (e : TypeId) (i : TypeInfo) (z : Value) (bytes : Nat) (ht : P.underlying t = some (.slice e)) (hi : P.info? e = some i) (hz : i.zero = some z)
  (hsize : i.size = 1) (hby : i.bytes = bytes) (hzs : z.cells.size = 1) (w : World)
  (v : Value) (n : Nat) (xs : List Value) (hs : a.eval s = v) (hown : w.ownsRow base e 1 v n xs) (u1 u2 : Value) (hx : a.eval x = .slice (some ⟨w.heap.size, 0, none⟩) 2 2) (h1 : u1.oneCell' = true) (h2 : u2.oneCell' = true)
  (h63 : n + 2 <= 1099511627776) (hbytes : bytes <= 64) (hbase : base <= w.heap.size)
  (h : ∀ v' w', w'.ownsRow base e 1 v' (n + 2) (xs ++ [u1, u2]) -> w.heap.size < w'.heap.size -> Below base w w' -> wpList P ops Q rest (a.put o.dst v') w') :
  wpList P ops Q (o :: rest) a (w.alloc (.cells #[u1, u2] e)) := by
 refine wpList_append_own _ hgd s x t ho base e i z 1 bytes ht hi hz hsize hby hzs (by decide) v n xs hs (hown.alloc _) ⟨w.heap.size, 0, none⟩ 2 2 [u1, u2] hx rfl ?_ ?_ ?_ ?_ ?_ ?_
 ·intro j u' hj
  match j, hj with
  | 0, hj => simp at hj; subst hj; simp [Addr.add]
  | 1, hj => simp at hj; subst hj; simp [Addr.add]
 ·intro u' hu
  simp at hu
  rcases hu with rfl | rfl
  ·exact h1
  ·exact h2
 ·unfold maxLen; omega
 ·have : (n + 2) * bytes <= (n + 2) * 64 := Nat.mul_le_mul_left _ hbytes
  omega
 ·simp; omega
 ·intro v' w' ho' hg _
  refine h v' w' ho' ?_ (((Below.refl _ _).alloc hbase _).grown hg (by simp; omega) (fun k hk => (hown.lt k hk).1))
  have := hg.size
  simp at this
  omega
def RetSx (w : World) (o : Option (List Int)) : Ending -> World -> Prop := fun e w' => (match o with | some l => ∃ v, e = .returned v ∧ w'.ownsRow w.heap.size 24 1 v l.length (U16s l) | none => e = NoP) ∧ Below w.heap.size w w'
theorem RetSx.none {w w' : World} {o : Option (List Int)} (h : o = none) (hb : Below w.heap.size w w') : RetSx w o NoP w' := by subst h; exact ⟨rfl, hb⟩
theorem RetSx.some {w w' : World} {o : Option (List Int)} {l : List Int} {v : Value} (h : o = some l) (hv : w'.ownsRow w.heap.size 24 1 v l.length (U16s l)) (hb : Below w.heap.size w w') : RetSx w o (.returned v) w' := by subst h; exact ⟨⟨v, rfl, hv⟩, hb⟩
theorem ib46 (l : Bytes) (W : World) : Calls Tryz.prog 110 #[.string (bs l), .int .u8 46] W fun e w' => e = .returned (.int .i64 (Lib.indexByte l 46)) ∧ w' = W := by
 have h := Any.strings_IndexByte Tryz.laysIB (bs l) 46 W
 rw [show (bs l).data.toList = l from ls_bs l] at h
 exact h
theorem ib46_mem (l : Bytes) : 0 <= Lib.indexByte l 46 ↔ 46 ∈ l := by
 rw [index_am]
 unfold amF
 rw [List.any_eq_true]
 constructor
 ·rintro ⟨x, hx, h⟩
  have : x = 46 := b2_inj (by simpa using h)
  exact this ▸ hx
 ·intro h
  exact ⟨46, h, by simp⟩
theorem rowP_more (nums : Bool) {t p r : Bytes} (h : t = p ++ 58 :: r) (hp : 58 ∉ p) : rowP nums (cutC 58 t) = match pieceF p with | none => none | some n => (rowP nums (cutC 58 r)).map (n :: ·) := by
 obtain ⟨q, qs, hq⟩ := cutC_ne 58 r
 rw [h, cutC_app, cutC_none hp, hq]
 rfl
theorem rowP_last (nums : Bool) {t : Bytes} (h : 58 ∉ t) : rowP nums (cutC 58 t) = endP nums t := by
 rw [cutC_none h]; rfl
theorem own_val {w : World} {base e n : Nat} {v : Value} {xs : List Value} (h : w.ownsRow base e 1 v n xs) : ∃ a c, v = .slice a n c := by
 rcases h.2 with ⟨rfl, rfl⟩ | ⟨g, cap, cur, rfl, _⟩
 ·exact ⟨_, _, rfl⟩
 ·exact ⟨_, _, rfl⟩
theorem row_long {T R : Option (List Int)} (hR : R = match T with | none => none | some l => if 8 < l.length then none else some l) {a : List Int} {o : Option (List Int)} (hT : o.map (a ++ ·) = T) (h : 8 < a.length) : R = none := by
 subst hT
 cases o with
 | none => exact hR
 | some l => rw [hR]; simp only [Option.map_some]; rw [if_pos (by rw [List.length_append]; omega)]
theorem row_any (l : Bytes) (nums : Bool) (w : World) (hl : l.length <= 1024000000) (hE : Env w) : Calls Tryz.prog 216 #[.string (bs l), .bool nums] w (RetSx w (rowF nums l)) := by
 obtain ⟨i1, hi1, hz1, hz2, hz3⟩ := info_parts u16_info
 obtain ⟨R, hR⟩ := ex_ (rowF nums l)
 rw [<- hR]
 unfold rowF at hR
 by_cases hnil : l = []
 ·rw [if_pos hnil] at hR
  obtain ⟨s, hs⟩ := ex_ (bs l)
  have he2 : s.toList = [] := by rw [hs, toList_bs, hnil]
  have he : s.toList.isEmpty = true := by rw [he2]; rfl
  rw [<- hs]
  clear hs hnil hl hE
  have HR := h_ hR; clear hR
  go_enter Tryz.func216, Tryz.ntmps216
  go_wp2_with fail
  go_ret
  exact RetSx.some HR.out ⟨rfl, .inl ⟨rfl, rfl⟩⟩ (Below.refl _ _)
 ·rw [if_neg hnil] at hR
  obtain ⟨T, hT⟩ := ex_ (rowP nums (cutC 58 l))
  rw [<- hT] at hR
  obtain ⟨s, hs⟩ := ex_ (bs l)
  have he2 : ¬ s.toList = [] := by rw [hs, toList_bs]; exact hnil
  have he : s.toList.isEmpty = false := by simpa using he2
  rw [<- hs]
  have HS := h_ hs; clear hs
  have HR := h_ hR; clear hR
  have HT := h_ hT; clear hT
  have HL := h_ hl; clear hl
  have HEV := h_ hE; clear hE
  clear hnil
  go_enter Tryz.func216, Tryz.ntmps216
  go_wp2_with fail
  go_loopw [0, 5, 6] (fun sv lv mv wr => ∃ (m : Bool) (t : Bytes) (a : List Int), mv = .bool m ∧ sv = .string (bs t) ∧ Hid (t.length <= l.length) ∧ wr.ownsRow w.heap.size 24 1 lv a.length (U16s a) ∧ a.length <= 8 ∧ Hid ((if m then (rowP nums (cutC 58 t)).map (a ++ ·) else some a) = T) ∧ w.heap.size <= wr.heap.size ∧ Below w.heap.size w wr) (fun sv _ mv _ => match mv with | .bool true => lenV sv + 1 | _ => 0)
  case atStart => exact ⟨true, l, [], by simp, by rw [HS.out], Nat.le_refl _, ⟨rfl, .inl ⟨rfl, rfl⟩⟩, by simp, by rw [if_pos rfl, HT.out]; cases rowP nums (cutC 58 l) <;> rfl, Nat.le_refl _, Below.refl _ _⟩
  case round =>
   obtain ⟨m, t, a, rfl, rfl, htl, hown, ha8, hinv, hwz, hb⟩ := hrel
   have HO := h_ hown; clear hown
   have HB := h_ hb; clear hb
   cases m with
   | false =>
    have hT : some a = T := hinv.out
    have hRa : R = some a := by rw [HR.out, <- hT]; dsimp only; rw [if_neg (by omega)]
    have HRA := h_ hRa; clear hRa hT hinv
    go_wp2_with fail
    go_ret
    exact RetSx.some HRA.out HO.out HB.out
   | true =>
    have hinv1 : (rowP nums (cutC 58 t)).map (a ++ ·) = T := hinv.out
    have htm : t.length <= 1024000000 := by have := htl.out; have := HL.out; omega
    have hcu := fun W (h : Below w.heap.size w W) => scut_any t [58] W htm (HEV.out.below h)
    rw [show bs [58] = ⟨#[58]⟩ from rfl] at hcu
    obtain ⟨u, hu⟩ := ex_ (bs t)
    have hus : u.size = t.length := by rw [hu, bs_size]
    rw [<- hu] at hcu
    rw [<- hu]
    have HUS := h_ hus; clear hus hinv
    have HU := h_ hu; clear hu
    by_cases h58 : (58 : UInt8) ∈ t
    ·obtain ⟨p, r, hpr, hp, hlc⟩ := lcut_yes h58
     rw [hlc] at hcu
     have HCU := h_ (hcu _ HB.out); clear hcu hlc
     rw [rowP_more nums hpr hp] at hinv1
     have hlr : p.length + r.length + 1 = t.length := by rw [hpr]; simp; omega
     have hpi := fun W => piece_any p W (by omega)
     have HL2 := h_ (show r.length <= l.length by have := htl.out; omega)
     have HLR := h_ hlr; clear hlr htl htm h58 hpr hp
     cases hpp : pieceF p with
     | none =>
      rw [hpp] at hinv1 hpi
      clear hpp
      change ∀ W, Calls _ _ _ W fun e w' => e = NoP ∧ w' = W at hpi
      have HPI := h_ hpi; clear hpi
      have hRn : R = none := by rw [HR.out, <- hinv1]; rfl
      have HRN := h_ hRn; clear hRn hinv1
      go_wp2_with (first
      | (go_at_call 48; refine (HCU.out).mono ?_; rintro e w2 ⟨rfl, hb2⟩; have HO2 := h_ (own_below HO.out hb2); have HB2 := h_ (HB.out.trans (hb2.mono HB.out.size)); have hwz2 := Nat.le_trans hwz hb2.size; clear hb2)
      | (go_at_call 226; refine (HPI.out _).mono ?_; rintro e w4 ⟨rfl, hw4⟩; subst hw4)
      | fail)
      exact ⟨rfl, RetSx.none HRN.out HB2.out⟩
     | some n =>
      rw [hpp] at hinv1 hpi
      clear hpp
      replace hinv1 : (rowP nums (cutC 58 r)).map ((a ++ [n]) ++ ·) = T := by
       rw [<- hinv1]
       cases rowP nums (cutC 58 r) <;> simp
      change ∀ W, Calls _ _ _ W fun e w' => e = .returned (.int .u16 n) ∧ w' = W at hpi
      have HPI := h_ hpi; clear hpi
      have hao : U16s a ++ [.int .u16 n] = U16s (a ++ [n]) := by simp
      have HAO := h_ hao; clear hao
      obtain ⟨al, hal⟩ := ex_ (a.length)
      have ho := HO.out
      rw [<- hal] at ho ha8
      have HO := h_ ho; clear ho
      by_cases h9 : al + 1 <= 8
      ·have HI2 := h_ (show (if true = true then (rowP nums (cutC 58 r)).map ((a ++ [n]) ++ ·) else some (a ++ [n])) = T from hinv1); clear hinv1
       have HAL := h_ hal; clear hal
       go_wp2_with (first
       | (go_at_call 48; refine (HCU.out).mono ?_; rintro e w2 ⟨rfl, hb2⟩; have HO2 := h_ (own_below HO.out hb2); have HB2 := h_ (HB.out.trans (hb2.mono HB.out.size)); have hwz2 := Nat.le_trans hwz hb2.size; clear hb2)
       | (go_at_call 226; refine (HPI.out _).mono ?_; rintro e w4 ⟨rfl, hw4⟩; subst hw4)
       | (at_builtin; (refine push1 rfl (.tmp 39) (.tmp 42) _ rfl w.heap.size 24 i1 (.int .u16 0) 2 Tryz.underlying203 hi1 hz1 hz2 hz3 (by decide) _ _ _ (U16s a) rfl HO2.out (.int .u16 n) rfl rfl (by omega) (by decide) (by omega) ?_); intro v6 w6 hown6 hw6 hb6; obtain ⟨av6, cv6, hv6⟩ := own_val hown6; subst hv6; have HO6 := h_ hown6; clear hown6; have HB6 := h_ (HB2.out.trans hb6); clear hb6)
       | fail)
       go_roundw
       case rel =>
        refine ⟨true, r, a ++ [n], by rfl, by rfl, HL2.out, ?_, by rw [List.length_append, <- HAL.out]; exact h9, HI2.out, by omega, HB6.out⟩
        rw [List.length_append, <- HAL.out, <- HAO.out]
        exact HO6.out
       case measure => simp [lenV, bs_size]; have := HLR.out; have := HUS.out; omega
      ·have hRn : R = none := row_long HR.out (o := rowP nums (cutC 58 r)) hinv1 (by rw [List.length_append, <- hal]; simp; omega)
       have HRN := h_ hRn; clear hRn hinv1 hal
       go_wp2_with (first
       | (go_at_call 48; refine (HCU.out).mono ?_; rintro e w2 ⟨rfl, hb2⟩; have HO2 := h_ (own_below HO.out hb2); have HB2 := h_ (HB.out.trans (hb2.mono HB.out.size)); have hwz2 := Nat.le_trans hwz hb2.size; clear hb2)
       | (go_at_call 226; refine (HPI.out _).mono ?_; rintro e w4 ⟨rfl, hw4⟩; subst hw4)
       | (at_builtin; (refine push1 rfl (.tmp 39) (.tmp 42) _ rfl w.heap.size 24 i1 (.int .u16 0) 2 Tryz.underlying203 hi1 hz1 hz2 hz3 (by decide) _ _ _ (U16s a) rfl HO2.out (.int .u16 n) rfl rfl (by omega) (by decide) (by omega) ?_); intro v6 w6 hown6 hw6 hb6; obtain ⟨av6, cv6, hv6⟩ := own_val hown6; subst hv6; have HO6 := h_ hown6; clear hown6; have HB6 := h_ (HB2.out.trans hb6); clear hb6)
       | fail)
       exact ⟨rfl, RetSx.none HRN.out HB6.out⟩
    ·have hlc := lcut_no h58
     rw [hlc] at hcu
     have HCU := h_ (hcu _ HB.out); clear hcu hlc
     rw [rowP_last nums h58] at hinv1
     clear h58
     unfold endP at hinv1
     have hpi := fun W => piece_any t W htm
     have hib := fun W => ib46 t W
     have him := ib46_mem t
     have hfn := fun W (h : Below w.heap.size w W) => fournum_any t W htm (HEV.out.below h)
     have HL2 := h_ (show ([] : Bytes).length <= l.length from Nat.zero_le _)
     obtain ⟨I, hI⟩ := ex_ (Lib.indexByte t 46)
     rw [<- hI] at hib him
     have HIB := h_ hib; clear hib hI
     cases nums with
     | false =>
      rw [if_neg (by simp)] at hinv1
      clear him hfn HIB
      cases hpp : pieceF t with
      | none =>
       rw [hpp] at hinv1 hpi
       clear hpp
       change ∀ W, Calls _ _ _ W fun e w' => e = NoP ∧ w' = W at hpi
       have HPI := h_ hpi; clear hpi
       have hRn : R = none := by rw [HR.out, <- hinv1]; rfl
       have HRN := h_ hRn; clear hRn hinv1
       go_wp2_with (first
            | (go_at_call 48; refine (HCU.out).mono ?_; rintro e w2 ⟨rfl, hb2⟩; have HO2 := h_ (own_below HO.out hb2); have HB2 := h_ (HB.out.trans (hb2.mono HB.out.size)); have hwz2 := Nat.le_trans hwz hb2.size; clear hb2)
            | (go_at_call 226; refine (HPI.out _).mono ?_; rintro e w4 ⟨rfl, hw4⟩; subst hw4)
            | fail)
       exact ⟨rfl, RetSx.none HRN.out HB2.out⟩
      | some n =>
       rw [hpp] at hinv1 hpi
       clear hpp
       change ∀ W, Calls _ _ _ W fun e w' => e = .returned (.int .u16 n) ∧ w' = W at hpi
       have HPI := h_ hpi; clear hpi
       have hao : U16s a ++ [.int .u16 n] = U16s (a ++ [n]) := by simp
       have HAO := h_ hao; clear hao
       obtain ⟨al, hal⟩ := ex_ (a.length)
       have ho := HO.out
       rw [<- hal] at ho ha8
       have HO := h_ ho; clear ho
       replace hinv1 : some (a ++ [n]) = T := hinv1
       by_cases h9 : al + 1 <= 8
       ·have HI2 := h_ (show (if false = true then (rowP false (cutC 58 [])).map ((a ++ [n]) ++ ·) else some (a ++ [n])) = T from hinv1); clear hinv1
        have HAL := h_ hal; clear hal
        go_wp2_with (first
            | (go_at_call 48; refine (HCU.out).mono ?_; rintro e w2 ⟨rfl, hb2⟩; have HO2 := h_ (own_below HO.out hb2); have HB2 := h_ (HB.out.trans (hb2.mono HB.out.size)); have hwz2 := Nat.le_trans hwz hb2.size; clear hb2)
            | (go_at_call 226; refine (HPI.out _).mono ?_; rintro e w4 ⟨rfl, hw4⟩; subst hw4)
            | (at_builtin; (refine push1 rfl (.tmp 39) (.tmp 42) _ rfl w.heap.size 24 i1 (.int .u16 0) 2 Tryz.underlying203 hi1 hz1 hz2 hz3 (by decide) _ _ _ (U16s a) rfl HO2.out (.int .u16 n) rfl rfl (by omega) (by decide) (by omega) ?_); intro v6 w6 hown6 hw6 hb6; obtain ⟨av6, cv6, hv6⟩ := own_val hown6; subst hv6; have HO6 := h_ hown6; clear hown6; have HB6 := h_ (HB2.out.trans hb6); clear hb6)
            | fail)
        go_roundw
        case rel =>
         refine ⟨false, [], a ++ [n], by rfl, by rfl, HL2.out, ?_, by rw [List.length_append, <- HAL.out]; exact h9, HI2.out, by omega, HB6.out⟩
         rw [List.length_append, <- HAL.out, <- HAO.out]
         exact HO6.out
        case measure => simp
       ·have hRn : R = none := by rw [HR.out, <- hinv1]; dsimp only; rw [if_pos (by rw [List.length_append, <- hal]; simp; omega)]
        have HRN := h_ hRn; clear hRn hinv1 hal
        go_wp2_with (first
            | (go_at_call 48; refine (HCU.out).mono ?_; rintro e w2 ⟨rfl, hb2⟩; have HO2 := h_ (own_below HO.out hb2); have HB2 := h_ (HB.out.trans (hb2.mono HB.out.size)); have hwz2 := Nat.le_trans hwz hb2.size; clear hb2)
            | (go_at_call 226; refine (HPI.out _).mono ?_; rintro e w4 ⟨rfl, hw4⟩; subst hw4)
            | (at_builtin; (refine push1 rfl (.tmp 39) (.tmp 42) _ rfl w.heap.size 24 i1 (.int .u16 0) 2 Tryz.underlying203 hi1 hz1 hz2 hz3 (by decide) _ _ _ (U16s a) rfl HO2.out (.int .u16 n) rfl rfl (by omega) (by decide) (by omega) ?_); intro v6 w6 hown6 hw6 hb6; obtain ⟨av6, cv6, hv6⟩ := own_val hown6; subst hv6; have HO6 := h_ hown6; clear hown6; have HB6 := h_ (HB2.out.trans hb6); clear hb6)
            | fail)
        exact ⟨rfl, RetSx.none HRN.out HB6.out⟩
     | true =>
      by_cases h46 : (46 : UInt8) ∈ t
      ·rw [if_pos ⟨rfl, h46⟩] at hinv1
       have hI0 : 0 <= I := him.mpr h46
       clear him h46 hpi
       cases hff : fnF t with
       | none =>
        rw [hff] at hinv1 hfn
        clear hff
        change ∀ W, Below w.heap.size w W -> Calls _ _ _ W fun e w' => e = NoP ∧ Below W.heap.size W w' at hfn
        have HFN := h_ hfn; clear hfn
        have hRn : R = none := by rw [HR.out, <- hinv1]; rfl
        have HRN := h_ hRn; clear hRn hinv1
        go_wp2_with (first
             | (go_at_call 48; refine (HCU.out).mono ?_; rintro e w2 ⟨rfl, hb2⟩; have HO2 := h_ (own_below HO.out hb2); have HB2 := h_ (HB.out.trans (hb2.mono HB.out.size)); have hwz2 := Nat.le_trans hwz hb2.size; clear hb2)
             | (go_at_call 110; refine (HIB.out _).mono ?_; rintro e w3 ⟨rfl, hw3⟩; subst hw3)
             | (go_at_call 225; refine (HFN.out _ HB2.out).mono ?_; rintro e w5 ⟨rfl, hb5⟩; have HO5 := h_ (own_below HO2.out hb5); have HB5 := h_ (HB2.out.trans (hb5.mono HB2.out.size)); have hwz5 := Nat.le_trans hwz2 hb5.size; clear hb5)
             | fail)
        exact ⟨rfl, RetSx.none HRN.out HB5.out⟩
       | some v =>
        rw [hff] at hinv1 hfn
        clear hff
        obtain ⟨v1, v2⟩ := v
        change ∀ W, Below w.heap.size w W -> Calls _ _ _ W fun e w' => e = .returned (.tuple #[.int .u16 v1, .int .u16 v2]) ∧ Below W.heap.size W w' at hfn
        have HFN := h_ hfn; clear hfn
        have hao : U16s a ++ [.int .u16 v1, .int .u16 v2] = U16s (a ++ [v1, v2]) := by simp
        have HAO := h_ hao; clear hao
        obtain ⟨al, hal⟩ := ex_ (a.length)
        have ho := HO.out
        rw [<- hal] at ho ha8
        have HO := h_ ho; clear ho
        replace hinv1 : some (a ++ [v1, v2]) = T := hinv1
        by_cases h9 : al + 2 <= 8
        ·have HI2 := h_ (show (if false = true then (rowP true (cutC 58 [])).map ((a ++ [v1, v2]) ++ ·) else some (a ++ [v1, v2])) = T from hinv1); clear hinv1
         have HAL := h_ hal; clear hal
         go_wp2_with (first
             | (go_at_call 48; refine (HCU.out).mono ?_; rintro e w2 ⟨rfl, hb2⟩; have HO2 := h_ (own_below HO.out hb2); have HB2 := h_ (HB.out.trans (hb2.mono HB.out.size)); have hwz2 := Nat.le_trans hwz hb2.size; clear hb2)
             | (go_at_call 110; refine (HIB.out _).mono ?_; rintro e w3 ⟨rfl, hw3⟩; subst hw3)
             | (go_at_call 225; refine (HFN.out _ HB2.out).mono ?_; rintro e w5 ⟨rfl, hb5⟩; have HO5 := h_ (own_below HO2.out hb5); have HB5 := h_ (HB2.out.trans (hb5.mono HB2.out.size)); have hwz5 := Nat.le_trans hwz2 hb5.size; clear hb5)
             | (at_builtin; (refine push2 rfl (.tmp 34) (.tmp 37) _ rfl w.heap.size 24 i1 (.int .u16 0) 2 Tryz.underlying203 hi1 hz1 hz2 hz3 (by decide) _ _ _ (U16s a) rfl HO5.out (.int .u16 v1) (.int .u16 v2) rfl rfl rfl (by omega) (by decide) (by omega) ?_); intro v6 w6 hown6 hw6 hb6; obtain ⟨av6, cv6, hv6⟩ := own_val hown6; subst hv6; have HO6 := h_ hown6; clear hown6; have HB6 := h_ (HB5.out.trans hb6); clear hb6)
             | fail)
         go_roundw
         case rel =>
          refine ⟨false, [], a ++ [v1, v2], by rfl, by rfl, HL2.out, ?_, by rw [List.length_append, <- HAL.out]; exact h9, HI2.out, by omega, HB6.out⟩
          rw [List.length_append, <- HAL.out, <- HAO.out]
          exact HO6.out
         case measure => simp
        ·have hRn : R = none := by rw [HR.out, <- hinv1]; dsimp only; rw [if_pos (by rw [List.length_append, <- hal]; simp; omega)]
         have HRN := h_ hRn; clear hRn hinv1 hal
         go_wp2_with (first
             | (go_at_call 48; refine (HCU.out).mono ?_; rintro e w2 ⟨rfl, hb2⟩; have HO2 := h_ (own_below HO.out hb2); have HB2 := h_ (HB.out.trans (hb2.mono HB.out.size)); have hwz2 := Nat.le_trans hwz hb2.size; clear hb2)
             | (go_at_call 110; refine (HIB.out _).mono ?_; rintro e w3 ⟨rfl, hw3⟩; subst hw3)
             | (go_at_call 225; refine (HFN.out _ HB2.out).mono ?_; rintro e w5 ⟨rfl, hb5⟩; have HO5 := h_ (own_below HO2.out hb5); have HB5 := h_ (HB2.out.trans (hb5.mono HB2.out.size)); have hwz5 := Nat.le_trans hwz2 hb5.size; clear hb5)
             | (at_builtin; (refine push2 rfl (.tmp 34) (.tmp 37) _ rfl w.heap.size 24 i1 (.int .u16 0) 2 Tryz.underlying203 hi1 hz1 hz2 hz3 (by decide) _ _ _ (U16s a) rfl HO5.out (.int .u16 v1) (.int .u16 v2) rfl rfl rfl (by omega) (by decide) (by omega) ?_); intro v6 w6 hown6 hw6 hb6; obtain ⟨av6, cv6, hv6⟩ := own_val hown6; subst hv6; have HO6 := h_ hown6; clear hown6; have HB6 := h_ (HB5.out.trans hb6); clear hb6)
             | fail)
         exact ⟨rfl, RetSx.none HRN.out HB6.out⟩
      ·rw [if_neg (fun a => h46 a.2)] at hinv1
       have hI0 : I < 0 := Int.not_le.mp (fun h => h46 (him.mp h))
       clear him hfn
       cases hpp : pieceF t with
       | none =>
        rw [hpp] at hinv1 hpi
        clear hpp
        change ∀ W, Calls _ _ _ W fun e w' => e = NoP ∧ w' = W at hpi
        have HPI := h_ hpi; clear hpi
        have hRn : R = none := by rw [HR.out, <- hinv1]; rfl
        have HRN := h_ hRn; clear hRn hinv1
        go_wp2_with (first
             | (go_at_call 48; refine (HCU.out).mono ?_; rintro e w2 ⟨rfl, hb2⟩; have HO2 := h_ (own_below HO.out hb2); have HB2 := h_ (HB.out.trans (hb2.mono HB.out.size)); have hwz2 := Nat.le_trans hwz hb2.size; clear hb2)
             | (go_at_call 110; refine (HIB.out _).mono ?_; rintro e w3 ⟨rfl, hw3⟩; subst hw3)
             | (go_at_call 226; refine (HPI.out _).mono ?_; rintro e w4 ⟨rfl, hw4⟩; subst hw4)
             | fail)
        exact ⟨rfl, RetSx.none HRN.out HB2.out⟩
       | some n =>
        rw [hpp] at hinv1 hpi
        clear hpp
        change ∀ W, Calls _ _ _ W fun e w' => e = .returned (.int .u16 n) ∧ w' = W at hpi
        have HPI := h_ hpi; clear hpi
        have hao : U16s a ++ [.int .u16 n] = U16s (a ++ [n]) := by simp
        have HAO := h_ hao; clear hao
        obtain ⟨al, hal⟩ := ex_ (a.length)
        have ho := HO.out
        rw [<- hal] at ho ha8
        have HO := h_ ho; clear ho
        replace hinv1 : some (a ++ [n]) = T := hinv1
        by_cases h9 : al + 1 <= 8
        ·have HI2 := h_ (show (if false = true then (rowP true (cutC 58 [])).map ((a ++ [n]) ++ ·) else some (a ++ [n])) = T from hinv1); clear hinv1
         have HAL := h_ hal; clear hal
         go_wp2_with (first
             | (go_at_call 48; refine (HCU.out).mono ?_; rintro e w2 ⟨rfl, hb2⟩; have HO2 := h_ (own_below HO.out hb2); have HB2 := h_ (HB.out.trans (hb2.mono HB.out.size)); have hwz2 := Nat.le_trans hwz hb2.size; clear hb2)
             | (go_at_call 110; refine (HIB.out _).mono ?_; rintro e w3 ⟨rfl, hw3⟩; subst hw3)
             | (go_at_call 226; refine (HPI.out _).mono ?_; rintro e w4 ⟨rfl, hw4⟩; subst hw4)
             | (at_builtin; (refine push1 rfl (.tmp 39) (.tmp 42) _ rfl w.heap.size 24 i1 (.int .u16 0) 2 Tryz.underlying203 hi1 hz1 hz2 hz3 (by decide) _ _ _ (U16s a) rfl HO2.out (.int .u16 n) rfl rfl (by omega) (by decide) (by omega) ?_); intro v6 w6 hown6 hw6 hb6; obtain ⟨av6, cv6, hv6⟩ := own_val hown6; subst hv6; have HO6 := h_ hown6; clear hown6; have HB6 := h_ (HB2.out.trans hb6); clear hb6)
             | fail)
         go_roundw
         case rel =>
          refine ⟨false, [], a ++ [n], by rfl, by rfl, HL2.out, ?_, by rw [List.length_append, <- HAL.out]; exact h9, HI2.out, by omega, HB6.out⟩
          rw [List.length_append, <- HAL.out, <- HAO.out]
          exact HO6.out
         case measure => simp
        ·have hRn : R = none := by rw [HR.out, <- hinv1]; dsimp only; rw [if_pos (by rw [List.length_append, <- hal]; simp; omega)]
         have HRN := h_ hRn; clear hRn hinv1 hal
         go_wp2_with (first
             | (go_at_call 48; refine (HCU.out).mono ?_; rintro e w2 ⟨rfl, hb2⟩; have HO2 := h_ (own_below HO.out hb2); have HB2 := h_ (HB.out.trans (hb2.mono HB.out.size)); have hwz2 := Nat.le_trans hwz hb2.size; clear hb2)
             | (go_at_call 110; refine (HIB.out _).mono ?_; rintro e w3 ⟨rfl, hw3⟩; subst hw3)
             | (go_at_call 226; refine (HPI.out _).mono ?_; rintro e w4 ⟨rfl, hw4⟩; subst hw4)
             | (at_builtin; (refine push1 rfl (.tmp 39) (.tmp 42) _ rfl w.heap.size 24 i1 (.int .u16 0) 2 Tryz.underlying203 hi1 hz1 hz2 hz3 (by decide) _ _ _ (U16s a) rfl HO2.out (.int .u16 n) rfl rfl (by omega) (by decide) (by omega) ?_); intro v6 w6 hown6 hw6 hb6; obtain ⟨av6, cv6, hv6⟩ := own_val hown6; subst hv6; have HO6 := h_ hown6; clear hown6; have HB6 := h_ (HB2.out.trans hb6); clear hb6)
             | fail)
         exact ⟨rfl, RetSx.none HRN.out HB6.out⟩

def RetV (w : World) (o : Option (List Int)) : Ending -> World -> Prop := fun e w' => (match o with | some l => ∃ v, e = .returned (.tuple #[v, .bool true]) ∧ w'.ownsRow w.heap.size 3 1 v l.length (I64s l) | none => e = .returned (.tuple #[.slice none 0 0, .bool false])) ∧ Below w.heap.size w w'
theorem RetV.none {w w' : World} {o : Option (List Int)} (h : o = none) (hb : Below w.heap.size w w') : RetV w o (.returned (.tuple #[.slice none 0 0, .bool false])) w' := by subst h; exact ⟨rfl, hb⟩
theorem RetV.some {w w' : World} {o : Option (List Int)} {l : List Int} {v : Value} (h : o = some l) (hv : w'.ownsRow w.heap.size 3 1 v l.length (I64s l)) (hb : Below w.heap.size w w') : RetV w o (.returned (.tuple #[v, .bool true])) w' := by subst h; exact ⟨⟨v, rfl, hv⟩, hb⟩

theorem append_wp {P : Program} {o : Oper} {a : Act} {K : Act -> World -> Prop} {Q : Exit -> Act -> World -> Prop} {w : World} (sl x : Operand) (t u : TypeId)
  (ho : o.op = .call { callee := .builtin .append, args := #[sl, x], argTypes := #[t, u] }) (v xv v' : Value) (w' : World) (hs : a.eval sl = v) (hx : a.eval x = xv)
  (hr : (Builtin.append_ #[t, u] o.type #[v, xv]).run P w = .ok v' w') (h : K (a.put o.dst v') w') : Oper.wp P o a w K Q := by
 unfold Oper.wp execOp
 simp only [ho, resolve, invoke, builtin, Sem.run_bind, Sem.run_pure, Result.andThen_ok, List.map_toArray, List.map_cons, List.map_nil, hs, hx, hr]
 exact h

theorem at1 (w : World) (a : Value) (e : TypeId) : At (w.alloc (.cells #[a] e)) w.heap.size 0 [a] := by
 intro j hj
 rw [Nat.zero_add, World.cell?_alloc_mark]
 match j, hj with
 | 0, _ => rfl
end Go.Proofs.YtpckaimpjccjhaaGreatDoor
