/- FouA FouB FouC FouD FouE FouR FouS FouT: joined. -/
import Derived.Test.YtgfklkfbccknoaaGreatDoorGIdnI
import Derived.Test.YtgfklkfbccknoaaGreatDoorGNumB
import Derived.Test.YtgfklkfbccknoaaGreatDoorGSlic
import Derived.Test.YtgfklkfbccknoaaGreatDoorShelf
import Derived.Test.YtgfklkfbccknoaaGreatDoorGEmB
/- Plain laws of layer 9: texts cut at a byte, numbers' texts, what they tell. -/
namespace Go.Proofs.YtgfklkfbccknoaaGreatDoor
open Go.RowKit
set_option maxRecDepth 10000

/-- a text, cut at a byte -/
def cutC (c : UInt8) : Bytes → List Bytes
  | [] => [[]]
  | x :: r => if x = c then [] :: cutC c r else match cutC c r with | [] => [[x]] | p :: ps => (x :: p) :: ps
theorem cutC_hit (c : UInt8) (r : Bytes) : cutC c (c :: r) = [] :: cutC c r := by rw [cutC, if_pos rfl]
theorem cutC_ne (c : UInt8) : ∀ t, ∃ p ps, cutC c t = p :: ps
  | [] => ⟨_, _, rfl⟩
  | x :: r => by
    unfold cutC
    split
    · exact ⟨_, _, rfl⟩
    · obtain ⟨p, ps, h⟩ := cutC_ne c r
      rw [h]; exact ⟨_, _, rfl⟩
theorem cutC_other {c x : UInt8} {r p : Bytes} {ps : List Bytes} (h : x ≠ c) (hr : cutC c r = p :: ps) : cutC c (x :: r) = (x :: p) :: ps := by
  rw [cutC, if_neg h, hr]
theorem cutC_app (c : UInt8) : ∀ a b : Bytes, cutC c (a ++ c :: b) = cutC c a ++ cutC c b
  | [], b => by rw [List.nil_append, cutC_hit]; rfl
  | x :: r, b => by
    have ih := cutC_app c r b
    obtain ⟨p, ps, h⟩ := cutC_ne c r
    by_cases hx : x = c
    · subst hx
      rw [List.cons_append, cutC_hit, cutC_hit, ih]; rfl
    · rw [h] at ih
      rw [List.cons_append, cutC_other hx ih, cutC_other hx h]; rfl
theorem cutC_none {c : UInt8} {p : Bytes} (h : c ∉ p) : cutC c p = [p] := by
  induction p with
  | nil => rfl
  | cons x r ih =>
    have hx : x ≠ c := fun h2 => h (by simp [h2])
    exact cutC_other hx (ih (fun h2 => h (by simp [h2])))
theorem cutC_dot : ∀ t : Bytes, cutC 46 t = cutD t
  | [] => rfl
  | x :: r => by rw [cutC, cutD, cutC_dot r]; rfl
/-- the piece that ends at i -/
theorem piece_noc {c : UInt8} {t : Bytes} {f i : Nat} (h : ∀ j (hj : j < t.length), f ≤ j → j < i → t[j] ≠ c) : c ∉ (t.drop f).take (i - f) := by
  intro hm
  obtain ⟨k, hk, e⟩ := List.getElem_of_mem hm
  rw [List.length_take, List.length_drop] at hk
  rw [List.getElem_take, List.getElem_drop] at e
  exact h (f + k) (by omega) (by omega) (by omega) e
theorem cutC_at {c : UInt8} {t : Bytes} {f i : Nat} (hf : f ≤ i) (hi : i < t.length) (hd : t[i] = c) (h : ∀ j (hj : j < t.length), f ≤ j → j < i → t[j] ≠ c) : cutC c (t.drop f) = (t.drop f).take (i - f) :: cutC c (t.drop (i + 1)) := by
  have e : t.drop f = (t.drop f).take (i - f) ++ c :: t.drop (i + 1) := by
    conv => lhs; rw [← List.take_append_drop (i - f) (t.drop f), List.drop_drop, show f + (i - f) = i by omega, List.drop_eq_getElem_cons hi, hd]
  conv => lhs; rw [e]
  rw [cutC_app, cutC_none (piece_noc h)]
  rfl
theorem cutC_end {c : UInt8} {t : Bytes} {f : Nat} (h : ∀ j (hj : j < t.length), f ≤ j → j < t.length → t[j] ≠ c) : cutC c (t.drop f) = [(t.drop f).take (t.length - f)] := by
  have e : (t.drop f).take (t.length - f) = t.drop f := List.take_of_length_le (by rw [List.length_drop]; omega)
  have := piece_noc h
  rw [e] at this ⊢
  exact cutC_none this
theorem cutC_len (c : UInt8) : ∀ t : Bytes, (cutC c t).length ≤ t.length + 1
  | [] => by simp [cutC]
  | x :: r => by
    have ih := cutC_len c r
    obtain ⟨p, ps, h⟩ := cutC_ne c r
    rw [h] at ih
    by_cases hx : x = c
    · subst hx; rw [cutC_hit, h]; simp at ih ⊢; omega
    · rw [cutC_other hx h]; simp at ih ⊢; omega
theorem cutC_piece (c : UInt8) : ∀ (t p : Bytes), p ∈ cutC c t → p.length ≤ t.length ∧ c ∉ p ∧ ∀ x ∈ p, x ∈ t
  | [], p, h => by simp [cutC] at h; subst h; simp
  | x :: r, p, h => by
    obtain ⟨q, qs, hq⟩ := cutC_ne c r
    by_cases hx : x = c
    · subst hx
      rw [cutC_hit] at h
      rcases List.mem_cons.mp h with rfl | h
      · simp
      · obtain ⟨h1, h2, h3⟩ := cutC_piece x r p h
        exact ⟨by simp; omega, h2, fun y hy => List.mem_cons_of_mem _ (h3 y hy)⟩
    · rw [cutC_other hx hq] at h
      rcases List.mem_cons.mp h with rfl | h
      · obtain ⟨h1, h2, h3⟩ := cutC_piece c r q (by rw [hq]; simp)
        refine ⟨by simp; omega, ?_, ?_⟩
        · intro hm
          rcases List.mem_cons.mp hm with e | hm
          · exact hx e.symm
          · exact h2 hm
        · intro y hy
          rcases List.mem_cons.mp hy with rfl | hy
          · simp
          · exact List.mem_cons_of_mem _ (h3 y hy)
      · obtain ⟨h1, h2, h3⟩ := cutC_piece c r p (by rw [hq]; exact List.mem_cons_of_mem _ h)
        exact ⟨by simp; omega, h2, fun y hy => List.mem_cons_of_mem _ (h3 y hy)⟩

/-- digits of a base, told up to C -/
def dgsGo (b C : Int) : Int → Bytes → Option Int
  | n, [] => some n
  | n, c :: t => if dgt (b2 c) b < 0 then none else dgsGo b C (min (n * b + dgt (b2 c) b) C) t
/-- a number's text, told up to C -/
def numG (C : Int) : Bytes → Option Int
  | [] => none
  | [c] => dgsGo 10 C 0 [c]
  | c :: x :: t => if c = 48 then (if x = 120 ∨ x = 88 then dgsGo 16 C 0 t else dgsGo 8 C 0 (x :: t)) else dgsGo 10 C 0 (c :: x :: t)
theorem num_two (C : Int) (c x : UInt8) (t : Bytes) : numG C (c :: x :: t) = if c = 48 then (if x = 120 ∨ x = 88 then dgsGo 16 C 0 t else dgsGo 8 C 0 (x :: t)) else dgsGo 10 C 0 (c :: x :: t) := rfl
theorem dgs_cap (b : Int) (hb : b = 8 ∨ b = 10 ∨ b = 16) : ∀ (l : Bytes) (n : Int), 0 ≤ n → dgsGo b 4294967296 (min n 4294967296) l = (dgsGo b 8589934592 n l).map (fun v => min v 4294967296)
  | [], n, _ => rfl
  | c :: t, n, hn => by
    unfold dgsGo
    split
    · rfl
    · next hd =>
      rw [← dgs_cap b hb t _ (by rcases hb with rfl | rfl | rfl <;> omega)]
      congr 1
      rcases hb with rfl | rfl | rfl <;> omega
theorem num_cap (s : Bytes) : numG 4294967296 s = (numG 8589934592 s).map (fun v => min v 4294967296) := by
  have h := fun b hb l => dgs_cap b hb l 0 (Int.le_refl _)
  rw [show min (0 : Int) 4294967296 = 0 from by decide] at h
  match s with
  | [] => rfl
  | [c] => exact h 10 (by omega) _
  | c :: x :: t =>
    rw [num_two, num_two]
    split
    · split
      · exact h 16 (by omega) _
      · exact h 8 (by omega) _
    · exact h 10 (by omega) _
theorem dgs_ge (b C : Int) (hb : 0 ≤ b) (hC : 0 ≤ C) : ∀ (l : Bytes) (n v : Int), 0 ≤ n → n ≤ C → dgsGo b C n l = some v → 0 ≤ v ∧ v ≤ C
  | [], n, v, h, h2, e => by unfold dgsGo at e; injection e with e; subst e; exact ⟨h, h2⟩
  | c :: t, n, v, h, _, e => by
    unfold dgsGo at e
    split at e
    · cases e
    · next hd =>
      have := Int.mul_nonneg h hb
      exact dgs_ge b C hb hC t _ v (by omega) (by omega) e
theorem num_ge {C : Int} (hC : 0 ≤ C) {s : Bytes} {v : Int} (h : numG C s = some v) : 0 ≤ v ∧ v ≤ C := by
  match s, h with
  | [], h => cases h
  | [c], h => exact dgs_ge 10 C (by omega) hC _ 0 v (by omega) hC h
  | c :: x :: t, h =>
    rw [num_two] at h
    split at h
    · split at h
      · exact dgs_ge 16 C (by omega) hC _ 0 v (by omega) hC h
      · exact dgs_ge 8 C (by omega) hC _ 0 v (by omega) hC h
    · exact dgs_ge 10 C (by omega) hC _ 0 v (by omega) hC h
/-- the parts of a text -/
def partsF (s : Bytes) : List Bytes := if 1 < (cutC 46 s).length ∧ (cutC 46 s).getLast? = some [] then (cutC 46 s).dropLast else cutC 46 s
theorem parts_ne (s : Bytes) : partsF s ≠ [] := by
  obtain ⟨p, ps, h⟩ := cutC_ne 46 s
  unfold partsF
  rw [h]
  split
  · next hc =>
    intro e
    have : ((p :: ps).dropLast).length = 0 := by rw [e]; rfl
    rw [List.length_dropLast] at this
    omega
  · simp
theorem parts_mem {s p : Bytes} (h : p ∈ partsF s) : p ∈ cutC 46 s := by
  unfold partsF at h
  split at h
  · exact List.dropLast_subset _ h
  · exact h
theorem parts_len (s : Bytes) : (partsF s).length ≤ s.length + 1 := by
  have := cutC_len 46 s
  unfold partsF
  split
  · rw [List.length_dropLast]; omega
  · exact this
/-- is the last part a number, or digits? -/
def lastF (t : Bytes) : Bool := (numG 4294967296 t).isSome || decide (t ≠ [] ∧ (dgsGo 10 4294967296 0 t).isSome = true)
def endsF (s : Bytes) : Bool := lastF ((partsF s).getLast (parts_ne s))
/-- what the parts tell -/
def room : Nat → Int | 0 => 4294967296 | 1 => 16777216 | 2 => 65536 | 3 => 256 | _ => 1
def fpGo (C : Int) : Nat → Int → List Bytes → Option Int
  | _, s, [] => some s
  | i, s, [p] => match numG C p with | none => none | some n => if room i ≤ n then none else some (s + n)
  | i, s, p :: q :: t => match numG C p with | none => none | some n => if 255 < n then none else fpGo C (i + 1) (s + n * room (i + 1)) (q :: t)
def fpF (ps : List Bytes) : Option Int := if 4 < ps.length then none else fpGo 4294967296 0 0 ps
def fparse (s : Bytes) : Option Int := fpF (partsF s)
theorem room_le (i : Nat) : 1 ≤ room i ∧ room i ≤ 4294967296 := by unfold room; split <;> decide
theorem fp_cap : ∀ (ps : List Bytes) (i : Nat) (s : Int), fpGo 8589934592 i s ps = fpGo 4294967296 i s ps
  | [], i, s => rfl
  | [p], i, s => by
    unfold fpGo
    have hr := room_le i
    rw [num_cap p]
    cases h : numG 8589934592 p with
    | none => rfl
    | some n =>
      show (if room i ≤ n then none else some (s + n)) = (if room i ≤ min n 4294967296 then none else some (s + min n 4294967296))
      by_cases hc : room i ≤ n
      · rw [if_pos hc, if_pos (by omega)]
      · rw [if_neg hc, if_neg (by omega), show min n 4294967296 = n by omega]
  | p :: q :: t, i, s => by
    unfold fpGo
    rw [num_cap p]
    cases h : numG 8589934592 p with
    | none => rfl
    | some n =>
      show (if 255 < n then none else fpGo 8589934592 (i + 1) (s + n * room (i + 1)) (q :: t)) = (if 255 < min n 4294967296 then none else fpGo 4294967296 (i + 1) (s + min n 4294967296 * room (i + 1)) (q :: t))
      by_cases hc : 255 < n
      · rw [if_pos hc, if_pos (by omega)]
      · rw [if_neg hc, if_neg (by omega), show min n 4294967296 = n by omega, fp_cap (q :: t)]
theorem room_step {i : Nat} (h : i < 4) : 256 * room (i + 1) = room i := by
  match i, h with
  | 0, _ => decide
  | 1, _ => decide
  | 2, _ => decide
  | 3, _ => decide
theorem fp_range : ∀ (ps : List Bytes) (i : Nat) (s v : Int), ps ≠ [] → i + ps.length ≤ 4 → 0 ≤ s → s + room i ≤ 4294967296 → fpGo 4294967296 i s ps = some v → 0 ≤ v ∧ v < 4294967296
  | [], _, _, _, h, _, _, _, _ => absurd rfl h
  | [p], i, s, v, _, _, h0, h1, e => by
    unfold fpGo at e
    cases h : numG 4294967296 p with
    | none => rw [h] at e; cases e
    | some n =>
      rw [h] at e
      have hn := num_ge (by decide) h
      dsimp only at e
      split at e
      · cases e
      · injection e with e; omega
  | p :: q :: t, i, s, v, _, hl, h0, h1, e => by
    unfold fpGo at e
    cases h : numG 4294967296 p with
    | none => rw [h] at e; cases e
    | some n =>
      rw [h] at e
      have hn := num_ge (by decide) h
      dsimp only at e
      split at e
      · cases e
      · next hc =>
        have hi : i < 4 := by simp at hl; omega
        have hs := room_step hi
        have hr := room_le (i + 1)
        have hm : 0 ≤ n * room (i + 1) := Int.mul_nonneg hn.1 (by omega)
        have hm2 : n * room (i + 1) ≤ 255 * room (i + 1) := Int.mul_le_mul_of_nonneg_right (by omega) (by omega)
        exact fp_range (q :: t) (i + 1) _ v (by simp) (by simp at hl ⊢; omega) (by omega) (by omega) e
theorem fparse_range {s : Bytes} {v : Int} (h : fparse s = some v) : 0 ≤ v ∧ v < 4294967296 := by
  unfold fparse fpF at h
  split at h
  · cases h
  · next hc => exact fp_range _ 0 0 v (parts_ne s) (by omega) (by omega) (by decide) h
end Go.Proofs.YtgfklkfbccknoaaGreatDoor

/- four.digits, four.number, four.parts, four.Ends, four.Parse: what they answer. -/
namespace Go.Proofs.YtgfklkfbccknoaaGreatDoor
open Go.RowKit
set_option maxRecDepth 10000

abbrev RetN (o : Option Int) (k : IntKind) : Ending := .returned (.tuple #[.int k (o.getD 0), .bool o.isSome])
theorem dgs_step (b C n : Int) {l : Bytes} {k : Nat} (h : k < l.length) : dgsGo b C n (l.drop k) = if dgt (b2 l[k]) b < 0 then none else dgsGo b C (min (n * b + dgt (b2 l[k]) b) C) (l.drop (k + 1)) := by
  rw [List.drop_eq_getElem_cons h]; rfl
set_option maxHeartbeats 2000000 in
theorem digits_any (l : Bytes) (b : Int) (w : World) (hl : l.length ≤ 1000000) (hb : b = 8 ∨ b = 10 ∨ b = 16) :
    Calls Tryz.prog 70 #[.string (bs l), .int .i64 b] w fun e w' => e = RetN (if l = [] then none else dgsGo b 4294967296 0 l) .i64 ∧ w' = w := by
  obtain ⟨R, hR⟩ : ∃ R, R = dgsGo b 4294967296 0 l := ⟨_, rfl⟩
  rw [← hR]
  have HR := Lib.hid hR; clear hR
  obtain ⟨s, hs⟩ : ∃ s, s = bs l := ⟨_, rfl⟩
  have hsz : s.size = l.length := by rw [hs, bs_size]
  have hby : ∀ k (hk : k < s.size) (hk2 : k < l.length), ((s[k]'hk).toNat : Int) = b2 l[k] := fun k hk hk2 => str_at hs hk hk2
  have hemp : (s.toList = []) ↔ l = [] := by rw [hs, toList_bs]
  rw [← hs]
  clear hs
  obtain ⟨N, hN⟩ : ∃ N, N = s.size := ⟨_, rfl⟩
  have hsN : s.size = N := hN.symm
  have hNm : N ≤ 1000000 := by omega
  have HBY := Lib.hid hby; clear hby
  have HSZ := Lib.hid hsz; clear hsz hl hN
  have hb2 : 0 ≤ b ∧ b ≤ 16 := by omega
  by_cases hnil : l = []
  · rw [if_pos hnil]
    have he := hemp.mpr hnil
    have he1 : s.toList.isEmpty = true := by simpa using he
    clear hemp
    go_enter Tryz.func70, Tryz.ntmps70
    go_wp2_with fail
    go_ret2
    exact ⟨rfl, rfl⟩
  · rw [if_neg hnil]
    have he : ¬ s.toList = [] := fun h => hnil (hemp.mp h)
    have he1 : s.toList.isEmpty = false := by simpa using he
    clear hemp
    have HNIL := Lib.hid hnil; clear hnil
    have HBB := Lib.hid hb; clear hb
    go_enter Tryz.func70, Tryz.ntmps70
    go_wp2_with fail
    go_loopw [6, 13] (fun nv iv wr => ∃ (k : Nat) (n : Int), k ≤ N ∧ iv = .int .i64 k ∧ nv = .int .i64 n ∧ Hid (dgsGo b 4294967296 n (l.drop k) = R) ∧ 0 ≤ n ∧ n ≤ 4294967296 ∧ w = wr) (fun _ i _ => N - (intOf i).toNat)
    case atStart => exact ⟨0, 0, by omega, by simp, by simp, HR.out.symm, by omega, by omega, rfl⟩
    case round =>
      obtain ⟨k, n, hk, rfl, rfl, hd, hn0, hn1, rfl⟩ := hrel
      by_cases hlt : k < N
      · have hku : k < s.size := by omega
        have hkl : k < l.length := by have := HSZ.out; omega
        have hx := HBY.out k hku hkl
        have hst := dgs_step b 4294967296 n hkl
        rw [hd.out] at hst
        have hr := b2_lt l[k]
        have hda := fun W => digitA_any (b2 l[k]) b W hr (by omega)
        have hlo : -1 ≤ dgt (b2 l[k]) b ∧ dgt (b2 l[k]) b < 36 := by
          unfold dgt
          simp only
          split <;> (try split) <;> (try split) <;> (try split) <;> omega
        obtain ⟨D, hD⟩ : ∃ D, D = dgt (b2 l[k]) b := ⟨_, rfl⟩
        rw [← hD] at hst hda hlo
        clear hD
        generalize b2 l[k] = X at hx hr hda
        have HDA := Lib.hid hda; clear hda hd
        have hnb : 0 ≤ n * b ∧ n * b ≤ 68719476736 := by rcases HBB.out with rfl | rfl | rfl <;> omega
        by_cases hD0 : D < 0
        · rw [if_pos hD0] at hst
          have HST := Lib.hid hst; clear hst
          go_wp2_with (first | (go_at_call 68; refine (HDA.out _).mono ?_; rintro e w2 ⟨rfl, rfl⟩) | fail)
          go_ret2
          exact ⟨by rw [HST.out]; rfl, rfl⟩
        · rw [if_neg hD0] at hst
          obtain ⟨M, hM⟩ : ∃ M, M = n * b := ⟨_, rfl⟩
          have hw1 : IntKind.i64.wrap (n * b) = M := by rw [hM]; exact IntWalk.i64_in _ (by omega)
          rw [← hM] at hst hnb
          clear hM
          have hw2 : IntKind.i64.wrap (M + D) = M + D := IntWalk.i64_in _ (by omega)
          by_cases hmn : M + D ≤ 4294967296
          · rw [show min (M + D) 4294967296 = M + D by omega] at hst
            have HST := Lib.hid hst; clear hst
            go_wp2_with (first | (go_at_call 68; refine (HDA.out _).mono ?_; rintro e w2 ⟨rfl, rfl⟩) | fail)
            go_roundw
            case rel => exact ⟨k + 1, M + D, by omega, by simp, by simp; try omega, HST.out.symm, by omega, by omega, by trivial⟩
            case measure => simp [intOf]; omega
          · rw [show min (M + D) 4294967296 = 4294967296 by omega] at hst
            have HST := Lib.hid hst; clear hst
            go_wp2_with (first | (go_at_call 68; refine (HDA.out _).mono ?_; rintro e w2 ⟨rfl, rfl⟩) | fail)
            go_roundw
            case rel => exact ⟨k + 1, 4294967296, by omega, by simp, by simp; try omega, HST.out.symm, by omega, by omega, by trivial⟩
            case measure => simp [intOf]; omega
      · obtain rfl : k = N := by omega
        have hdr : l.drop k = [] := List.drop_eq_nil_of_le (by have := HSZ.out; omega)
        have hd1 := hd.out
        rw [hdr] at hd1
        have HST := Lib.hid (show some n = R from hd1); clear hd1 hd
        go_wp2_with fail
        go_ret2
        exact ⟨by rw [← HST.out]; rfl, rfl⟩
theorem hp_any (l m : Bytes) (w : World) : Calls Tryz.prog 21 #[.string (bs l), .string (bs m)] w fun e w' => e = .returned (.bool (Lib.hasPrefix l m)) ∧ w' = w := by
  have h := Any.strings_HasPrefix Tryz.laysHP (bs l) (bs m) w
  rw [show (bs l).data.toList = l from ls_bs l, show (bs m).data.toList = m from ls_bs m] at h
  exact h
end Go.Proofs.YtgfklkfbccknoaaGreatDoor

/- four.number, four.parts. -/
namespace Go.Proofs.YtgfklkfbccknoaaGreatDoor
open Go.RowKit
set_option maxRecDepth 10000

theorem hp2 (c x : UInt8) (t : Bytes) (y : UInt8) : Lib.hasPrefix (c :: x :: t) [48, y] = (decide (c = 48) && decide (x = y)) := by
  have h : ∀ a b : UInt8, (a == b) = decide (b = a) := fun a b => by
    rw [Bool.eq_iff_iff]
    simp only [beq_iff_eq, decide_eq_true_eq]
    exact eq_comm
  show ((48 == c) && ((y == x) && true)) = _
  rw [h, h, Bool.and_true]
theorem hp2_short (l : Bytes) (h : l.length < 2) (y : UInt8) : Lib.hasPrefix l [48, y] = false := by
  match l, h with
  | [], _ => rfl
  | [c], _ => simp [Lib.hasPrefix, List.isPrefixOf]
/-- the calls of four.number, by what they answer -/
def NumC (l : Bytes) (p q : Bool) : Prop := (∀ W, Calls Tryz.prog 21 #[.string (bs l), .string ⟨#[48, 120]⟩] W fun e w' => e = .returned (.bool p) ∧ w' = W) ∧ (∀ W, Calls Tryz.prog 21 #[.string (bs l), .string ⟨#[48, 88]⟩] W fun e w' => e = .returned (.bool q) ∧ w' = W)
theorem NumC.of (l : Bytes) : NumC l (Lib.hasPrefix l [48, 120]) (Lib.hasPrefix l [48, 88]) := ⟨fun W => hp_any l [48, 120] W, fun W => hp_any l [48, 88] W⟩
set_option maxHeartbeats 2000000 in
theorem fnum_any (l : Bytes) (w : World) (hl : l.length ≤ 1000000) :
    Calls Tryz.prog 71 #[.string (bs l)] w fun e w' => e = RetN (numG 4294967296 l) .i64 ∧ w' = w := by
  have hnc := NumC.of l
  match l, hl, hnc with
  | [], hl, hnc =>
    have hz := fun W => digits_any [] 10 W (by simp) (by omega)
    rw [hp2_short [] (by simp), hp2_short [] (by simp)] at hnc
    have HP1 := Lib.hid hnc.1
    have HP3 := Lib.hid hnc.2; clear hnc
    have HZ := Lib.hid hz; clear hz
    obtain ⟨s, hs⟩ : ∃ s, s = bs [] := ⟨_, rfl⟩
    have hsz : s.size = 0 := by rw [hs]; rfl
    rw [← hs] at HZ HP1 HP3 ⊢
    clear hs
    go_enter Tryz.func71, Tryz.ntmps71
    go_wp2_with (first
      | (go_at_call 21; (with_reducible first | refine (HP1.out _).mono ?_ | refine (HP3.out _).mono ?_); rintro e w2 ⟨rfl, hw2⟩; subst hw2)
      | (go_at_call 70; refine (HZ.out _).mono ?_; rintro e w2 ⟨rfl, hw2⟩; subst hw2)
      | fail)
    go_ret2
    exact ⟨rfl, rfl⟩
  | [c], hl, hnc =>
    have hz := fun W => digits_any [c] 10 W (by simp) (by omega)
    rw [hp2_short [c] (by simp), hp2_short [c] (by simp)] at hnc
    have HP1 := Lib.hid hnc.1
    have HP3 := Lib.hid hnc.2; clear hnc
    rw [if_neg (by simp)] at hz
    obtain ⟨R, hR⟩ : ∃ R, R = numG 4294967296 [c] := ⟨_, rfl⟩
    rw [show dgsGo 10 4294967296 0 [c] = R from hR.symm] at hz
    rw [← hR]
    clear hR
    have HZ := Lib.hid hz; clear hz
    obtain ⟨s, hs⟩ : ∃ s, s = bs [c] := ⟨_, rfl⟩
    have hsz : s.size = 1 := by rw [hs]; rfl
    rw [← hs] at HZ HP1 HP3 ⊢
    clear hs
    go_enter Tryz.func71, Tryz.ntmps71
    go_wp2_with (first
      | (go_at_call 21; (with_reducible first | refine (HP1.out _).mono ?_ | refine (HP3.out _).mono ?_); rintro e w2 ⟨rfl, hw2⟩; subst hw2)
      | (go_at_call 70; refine (HZ.out _).mono ?_; rintro e w2 ⟨rfl, hw2⟩; subst hw2)
      | fail)
    go_ret2
    exact ⟨rfl, rfl⟩
  | c :: x :: t, hl, hnc =>
    rw [hp2, hp2] at hnc
    rw [num_two]
    have hsz0 : (bs (c :: x :: t)).size = t.length + 2 := by rw [bs_size]; rfl
    have hx0 : ∀ h, (((bs (c :: x :: t))[0]'h).toNat : Int) = b2 c := fun h => rfl
    have hs1 : (bs (c :: x :: t)).extract 1 (t.length + 2) = bs (x :: t) := by
      rw [bs_extract]; congr 1; simp
    have hs2 : (bs (c :: x :: t)).extract 2 (t.length + 2) = bs t := by
      rw [bs_extract]; congr 1; simp
    obtain ⟨L, hL⟩ : ∃ L, L = t.length := ⟨_, rfl⟩
    rw [← hL] at hsz0 hs1 hs2
    have hLm : L ≤ 1000000 := by simp at hl; omega
    by_cases hc : c = 48
    · have hb : b2 c = 48 := by rw [hc]; decide
      rw [hb] at hx0
      rw [if_pos hc]
      rw [show decide (c = 48) = true by simpa using hc, Bool.true_and, Bool.true_and] at hnc
      by_cases hx : x = 120 ∨ x = 88
      · rw [if_pos hx]
        have hp : ∃ p q, decide (x = 120) = p ∧ decide (x = 88) = q ∧ ((p = true ∧ q = false) ∨ (p = false ∧ q = true)) := by
          rcases hx with rfl | rfl
          · exact ⟨true, false, rfl, rfl, .inl ⟨rfl, rfl⟩⟩
          · exact ⟨false, true, rfl, rfl, .inr ⟨rfl, rfl⟩⟩
        obtain ⟨p, q, hp1, hp2, hpq⟩ := hp
        rw [hp1, hp2] at hnc
        have hz := fun W => digits_any t 16 W (by omega) (by omega)
        have HP1 := Lib.hid hnc.1
        have HP3 := Lib.hid hnc.2; clear hnc hp1 hp2 hc hx
        obtain ⟨s, hs⟩ : ∃ s, s = bs (c :: x :: t) := ⟨_, rfl⟩
        rw [← hs] at hsz0 hs2 HP1 HP3 ⊢
        clear hs hx0 hs1 hl
        by_cases ht : t = []
        · subst ht
          obtain rfl : L = 0 := hL
          clear hz
          rcases hpq with ⟨rfl, rfl⟩ | ⟨rfl, rfl⟩
          all_goals
            go_enter Tryz.func71, Tryz.ntmps71
            go_wp2_with (first
              | (go_at_call 21; (with_reducible first | refine (HP1.out _).mono ?_ | refine (HP3.out _).mono ?_); rintro e w2 ⟨rfl, hw2⟩; subst hw2)
              | fail)
            go_ret2
            exact ⟨rfl, rfl⟩
        · rw [if_neg ht] at hz
          have hL1 : L ≠ 0 := fun h => ht (List.eq_nil_of_length_eq_zero (by omega))
          obtain ⟨R, hR⟩ : ∃ R, R = dgsGo 16 4294967296 0 t := ⟨_, rfl⟩
          rw [← hR] at hz ⊢
          obtain ⟨u, hu⟩ : ∃ u, u = bs t := ⟨_, rfl⟩
          rw [← hu] at hz hs2
          have HZ := Lib.hid hz; clear hz ht hR hu hL
          rcases hpq with ⟨rfl, rfl⟩ | ⟨rfl, rfl⟩
          all_goals
            go_enter Tryz.func71, Tryz.ntmps71
            go_wp2_with (first
              | (go_at_call 21; (with_reducible first | refine (HP1.out _).mono ?_ | refine (HP3.out _).mono ?_); rintro e w2 ⟨rfl, hw2⟩; subst hw2)
              | (go_at_call 70; refine (HZ.out _).mono ?_; rintro e w2 ⟨rfl, hw2⟩; subst hw2)
              | fail)
            go_ret2
            exact ⟨rfl, rfl⟩
      · rw [if_neg hx]
        rw [show decide (x = 120) = false by simpa using fun h => hx (.inl h), show decide (x = 88) = false by simpa using fun h => hx (.inr h)] at hnc
        have hz := fun W => digits_any (x :: t) 8 W (by simp at hl ⊢; omega) (by omega)
        rw [if_neg (by simp)] at hz
        have HP1 := Lib.hid hnc.1
        have HP3 := Lib.hid hnc.2; clear hnc hc hx
        obtain ⟨R, hR⟩ : ∃ R, R = dgsGo 8 4294967296 0 (x :: t) := ⟨_, rfl⟩
        rw [← hR] at hz ⊢
        obtain ⟨u, hu⟩ : ∃ u, u = bs (x :: t) := ⟨_, rfl⟩
        rw [← hu] at hz hs1
        obtain ⟨s, hs⟩ : ∃ s, s = bs (c :: x :: t) := ⟨_, rfl⟩
        have hx0' : ∀ h : 0 < s.size, ((s[0]'h).toNat : Int) = 48 := by subst hs; exact hx0
        rw [← hs] at hsz0 hs1 HP1 HP3 ⊢
        clear hs hx0 hs2 hl
        have hx1 := hx0' (show 0 < s.size by rw [hsz0]; exact Nat.succ_pos _)
        have HZ := Lib.hid hz; clear hz hR hu hL hx0'
        go_enter Tryz.func71, Tryz.ntmps71
        go_wp2_with (first
          | (go_at_call 21; (with_reducible first | refine (HP1.out _).mono ?_ | refine (HP3.out _).mono ?_); rintro e w2 ⟨rfl, hw2⟩; subst hw2)
          | (go_at_call 70; refine (HZ.out _).mono ?_; rintro e w2 ⟨rfl, hw2⟩; subst hw2)
          | fail)
        go_ret2
        exact ⟨rfl, rfl⟩
    · have hb : b2 c ≠ 48 := fun h => hc (by have := b2_inj (x := c) (y := 48) (by rw [h]; decide); exact this)
      rw [if_neg hc]
      rw [show decide (c = 48) = false by simpa using hc, Bool.false_and, Bool.false_and] at hnc
      have hz := fun W => digits_any (c :: x :: t) 10 W hl (by omega)
      rw [if_neg (by simp)] at hz
      have HP1 := Lib.hid hnc.1
      have HP3 := Lib.hid hnc.2; clear hnc hc
      obtain ⟨R, hR⟩ : ∃ R, R = dgsGo 10 4294967296 0 (c :: x :: t) := ⟨_, rfl⟩
      rw [← hR] at hz ⊢
      obtain ⟨s, hs⟩ : ∃ s, s = bs (c :: x :: t) := ⟨_, rfl⟩
      have hx0' : ∀ h : 0 < s.size, ((s[0]'h).toNat : Int) = b2 c := by subst hs; exact hx0
      rw [← hs] at hsz0 hz HP1 HP3 ⊢
      clear hs hx0 hs1 hs2 hl
      have hx1 := hx0' (show 0 < s.size by rw [hsz0]; exact Nat.succ_pos _)
      generalize b2 c = C at hb hx1
      have HZ := Lib.hid hz; clear hz hR hL hx0'
      go_enter Tryz.func71, Tryz.ntmps71
      go_wp2_with (first
        | (go_at_call 21; (with_reducible first | refine (HP1.out _).mono ?_ | refine (HP3.out _).mono ?_); rintro e w2 ⟨rfl, hw2⟩; subst hw2)
        | (go_at_call 70; refine (HZ.out _).mono ?_; rintro e w2 ⟨rfl, hw2⟩; subst hw2)
        | fail)
      go_ret2
      exact ⟨rfl, rfl⟩
end Go.Proofs.YtgfklkfbccknoaaGreatDoor

/- four.parts, four.Ends, four.Parse. -/
namespace Go.Proofs.YtgfklkfbccknoaaGreatDoor
open Go.RowKit
set_option maxRecDepth 10000

theorem str_info : (Tryz.prog.info? 9).map (fun i => (i.zero, i.size, i.bytes)) = some (some (.string ⟨#[]⟩), 1, 16) := by kernel_rfl
/-- what a function answers that makes a slice of texts -/
def RetP (w : World) (ps : List Bytes) : Ending → World → Prop := fun e w' => ∃ v, e = .returned v ∧ Sl w'.heap.size w' v (ps.map S) ∧ Below w.heap.size w w'
theorem sl_strs (w : World) (ps : List Bytes) (hl : ps.length ≤ 1000000) : Sl (w.alloc (.cells (Strs ps).toArray 9)).heap.size (w.alloc (.cells (Strs ps).toArray 9)) (.slice (some ⟨w.heap.size, 0, none⟩) ps.length ps.length) (ps.map S) :=
  Sl.of_own (own_strs w w.heap.size 9 ps (Nat.le_refl _) hl)
theorem Sl.pre {B b o n c : Nat} {w : World} {xs : List Value} (h : Sl B w (.slice (some ⟨b, o, none⟩) n c) xs) (hn : n = xs.length) (hn0 : n ≠ 0) (k : Nat) (hk : k ≤ n) : Sl B w (.slice (some ⟨b, o, none⟩) k c) (xs.take k) := by
  obtain ⟨c', h1, h2, h⟩ := h
  rcases h with ⟨hx, _⟩ | ⟨b', o', hb, hv, ha⟩
  · rw [hx] at hn; exact absurd hn hn0
  · injection hv with e1 e2 e3
    injection e1 with e1
    injection e1 with e4 e5
    subst e4 e5 e3
    refine ⟨c, by rw [List.length_take]; omega, h2, .inr ⟨b, o, hb, ?_, fun j hj => ?_⟩⟩
    · rw [List.length_take, Nat.min_eq_left (by omega)]
    · rw [List.length_take] at hj
      rw [ha j (by omega)]
      simp
theorem last_at {α : Type} {l : List α} {K : Nat} (h : l.length = K + 1) : l.getLast? = some (l[K]'(by omega)) := by
  rw [List.getLast?_eq_getElem?, show l.length - 1 = K by omega]
  exact List.getElem?_eq_getElem (by omega)
set_option maxHeartbeats 2000000 in
theorem parts_any (l : Bytes) (w : World) (hl : l.length ≤ 100000) (hE : Env w) : Calls Tryz.prog 69 #[.string (bs l)] w (RetP w (partsF l)) := by
  have hsp := split_dot l w hE (by omega)
  rw [pieces_cut, ← cutC_dot] at hsp
  have hlen := cutC_len 46 l
  obtain ⟨ps, hps⟩ : ∃ ps, ps = cutC 46 l := ⟨_, rfl⟩
  have hpf : partsF l = if 1 < ps.length ∧ ps.getLast? = some [] then ps.dropLast else ps := by unfold partsF; rw [hps]
  have hne : ps ≠ [] := by obtain ⟨p, q, h⟩ := cutC_ne 46 l; rw [hps, h]; simp
  rw [hpf]
  rw [← hps] at hsp hlen
  clear hpf hps
  obtain ⟨K, hK⟩ : ∃ K, ps.length = K + 1 := ⟨ps.length - 1, by have := List.length_pos_iff.mpr hne; omega⟩
  have hla := last_at hK
  have hKm : K ≤ 100000 := by omega
  have hsl := sl_strs w ps (by omega)
  have hbel : Below w.heap.size w (w.alloc (.cells (Strs ps).toArray 9)) := (Below.refl _ w).alloc (Nat.le_refl _) _
  rw [hK] at hsp hsl
  obtain ⟨b, o, hbo, _, hcell⟩ := strs_at hsl K (by omega)
  obtain ⟨rfl, rfl⟩ : b = w.heap.size ∧ o = 0 := by injection hbo with h; injection h with h1 h2; exact ⟨h1.symm, h2.symm⟩
  rw [Nat.zero_add] at hcell
  rw [hla]
  obtain ⟨q, hq⟩ : ∃ q, q = ps[K]'(by omega) := ⟨_, rfl⟩
  rw [← hq] at hcell ⊢
  obtain ⟨w2, hw2⟩ : ∃ w2, w2 = w.alloc (.cells (Strs ps).toArray 9) := ⟨_, rfl⟩
  rw [← hw2] at hsp hsl hbel hcell
  obtain ⟨s, hs⟩ : ∃ s, s = bs l := ⟨_, rfl⟩
  rw [← hs] at hsp ⊢
  obtain ⟨g, hg⟩ : ∃ g, g = w.heap.size := ⟨_, rfl⟩
  rw [← hg] at hsp hsl hbel hcell
  have hbel0 : ∃ g0, g = g0 ∧ g0 = w.heap.size := ⟨g, rfl, hg⟩
  have HG := Lib.hid hbel0; clear hbel0
  have HSP := Lib.hid hsp; clear hsp
  have HSL := Lib.hid hsl; clear hsl
  have HBE := Lib.hid (show Below w.heap.size w w2 from hg ▸ hbel); clear hbel
  clear hs hw2 hla hne hlen hbo hE hg
  clear hq
  obtain ⟨N, hN⟩ : ∃ N, N = K + 1 := ⟨_, rfl⟩
  have hw1 : IntKind.i64.wrap (((K + 1 : Nat) : Int) - 1) = (K : Int) := by rw [IntWalk.i64_in _ (by omega)]; omega
  rw [← hN] at HSP hw1
  have hKN : K < N := by omega
  have HN := Lib.hid hN; clear hN
  by_cases h1 : 1 < N
  · by_cases hqe : q = []
    · have he : (bs q).toList.isEmpty = true := by rw [toList_bs, hqe]; rfl
      have he2 : (bs q).toList = [] := by rw [toList_bs, hqe]
      rw [if_pos ⟨by have := HN.out; omega, by rw [hqe]⟩]
      have hfin : Sl w2.heap.size w2 (.slice (some ⟨g, 0, none⟩) K N) (ps.dropLast.map S) := by
        have := HSL.out.pre (by rw [List.length_map, hK]) (by omega) K (by omega)
        rw [List.dropLast_eq_take, hK, Nat.add_sub_cancel, List.map_take, HN.out]
        exact this
      have HA2 := Lib.hid hfin; clear hfin
      replace hcell : w2.cell? ⟨g, K, none⟩ = some (.string (bs q)) := hcell
      generalize bs q = u at hcell he he2
      clear hqe hK HSL
      go_enter Tryz.func69, Tryz.ntmps69
      go_wp2_with fail
      refine (HSP.out).mono ?_
      rintro e w3 ⟨rfl, rfl⟩
      go_wp2_with fail
      go_ret
      exact ⟨_, rfl, HA2.out, HBE.out⟩
    · have he : (bs q).toList.isEmpty = false := by rw [toList_bs]; simpa using hqe
      have he2 : ¬ (bs q).toList = [] := by rw [toList_bs]; exact hqe
      rw [if_neg (fun a => hqe (by have := a.2; injection this))]
      have HSL2 := Lib.hid HSL.out
      rw [← HN.out] at HSL2
      replace hcell : w2.cell? ⟨g, K, none⟩ = some (.string (bs q)) := hcell
      generalize bs q = u at hcell he he2
      clear hqe hK HSL
      go_enter Tryz.func69, Tryz.ntmps69
      go_wp2_with fail
      refine (HSP.out).mono ?_
      rintro e w3 ⟨rfl, rfl⟩
      go_wp2_with fail
      go_ret
      exact ⟨_, rfl, HSL2.out, HBE.out⟩
  · rw [if_neg (fun a => h1 (by have := HN.out; omega))]
    have HSL2 := Lib.hid HSL.out
    rw [← HN.out] at HSL2
    clear hK HSL hcell
    go_enter Tryz.func69, Tryz.ntmps69
    go_wp2_with fail
    refine (HSP.out).mono ?_
    rintro e w3 ⟨rfl, rfl⟩
    go_wp2_with fail
    go_ret
    exact ⟨_, rfl, HSL2.out, HBE.out⟩
end Go.Proofs.YtgfklkfbccknoaaGreatDoor

/- four.Ends, four.Parse. -/
namespace Go.Proofs.YtgfklkfbccknoaaGreatDoor
open Go.RowKit
set_option maxRecDepth 10000

theorem parts_small {l p : Bytes} (h : p ∈ partsF l) : p.length ≤ l.length := (cutC_piece 46 l p (parts_mem h)).1
set_option maxHeartbeats 2000000 in
theorem ends_any (l : Bytes) (w : World) (hl : l.length ≤ 100000) (hE : Env w) : Calls Tryz.prog 43 #[.string (bs l)] w fun e w' => e = .returned (.bool (endsF l)) ∧ Below w.heap.size w w' := by
  have hpa := parts_any l w hl hE
  have hsm := fun p (h : p ∈ partsF l) => parts_small h
  have hpn := parts_len l
  have hef : endsF l = lastF ((partsF l).getLast (parts_ne l)) := rfl
  have hne := parts_ne l
  rw [hef]
  clear hef
  have hla : ∀ (ps : List Bytes) (h : ps ≠ []) (K : Nat) (hK : ps.length = K + 1), ps.getLast h = ps[K]'(by omega) := fun ps h K hK => by rw [List.getLast_eq_getElem]; congr 1; omega
  obtain ⟨K, hK⟩ : ∃ K, (partsF l).length = K + 1 := ⟨(partsF l).length - 1, by have := List.length_pos_iff.mpr hne; omega⟩
  obtain ⟨q, hq0⟩ : ∃ q, q = (partsF l).getLast (parts_ne l) := ⟨_, rfl⟩
  have hqq := hq0
  rw [hla _ _ K hK] at hqq
  rw [← hq0]
  clear hq0
  generalize partsF l = ps at hpa hsm hpn hne hK hqq
  have hq : q.length ≤ l.length := by rw [hqq]; exact hsm _ (List.getElem_mem _)
  have hKm : K ≤ 100000 := by omega
  have hd := fun W => digits_any q 10 W (by omega) (by omega)
  have hn := fun W => fnum_any q W (by omega)
  have hlf : lastF q = ((if q = [] then none else dgsGo 10 4294967296 0 q).isSome || (numG 4294967296 q).isSome) := by
    unfold lastF
    by_cases h : q = []
    · subst h; rfl
    · rw [if_neg h, Bool.or_comm]
      congr 1
      cases dgsGo 10 4294967296 0 q <;> simp [h]
  rw [hlf]
  clear hlf hsm hpn hla
  generalize (if q = [] then none else dgsGo 10 4294967296 0 q) = o1 at hd
  generalize numG 4294967296 q = o2 at hn
  have hsl : ∀ (w2 : World) (v : Value), Sl w2.heap.size w2 v (ps.map S) → ∃ b o c, v = .slice (some ⟨b, o, none⟩) (K + 1) c ∧ w2.cell? ⟨b, o + K, none⟩ = some (.string (bs q)) := by
    intro w2 v h
    obtain ⟨a, c, rfl⟩ := slice_val h
    rw [List.length_map, hK] at h ⊢
    obtain ⟨b, o, rfl, _, hc⟩ := strs_at h K (by omega)
    exact ⟨b, o, c, rfl, by rw [hqq]; exact hc⟩
  obtain ⟨N, hN⟩ : ∃ N, N = K + 1 := ⟨_, rfl⟩
  have hw1 : IntKind.i64.wrap (((K + 1 : Nat) : Int) - 1) = (K : Int) := by rw [IntWalk.i64_in _ (by omega)]; omega
  rw [← hN] at hsl hw1
  have hKN : K < N := by omega
  have HSL := Lib.hid hsl; clear hsl
  have HD := Lib.hid hd; clear hd
  have HN := Lib.hid hn; clear hn
  have HPA := Lib.hid hpa; clear hpa
  obtain ⟨s, hs⟩ : ∃ s, s = bs l := ⟨_, rfl⟩
  rw [← hs] at HPA ⊢
  obtain ⟨u, hu⟩ : ∃ u, u = bs q := ⟨_, rfl⟩
  rw [← hu] at HSL HD HN
  clear hs hu hqq hK hN hq
  cases o1 with
  | some d =>
    go_enter Tryz.func43, Tryz.ntmps43
    go_wp2_with fail
    refine (HPA.out).mono ?_
    rintro e w2 ⟨v, rfl, hv, hb2⟩
    obtain ⟨b, o, c, rfl, hc⟩ := HSL.out w2 v hv
    have HB := Lib.hid hb2; clear hb2 hv
    go_wp2_with (first
      | (go_at_call 70; refine (HD.out _).mono ?_; rintro e w2 ⟨rfl, hw2⟩; subst hw2)
      | fail)
    go_ret
    exact ⟨rfl, HB.out⟩
  | none =>
    rw [Option.isSome_none, Bool.false_or]
    go_enter Tryz.func43, Tryz.ntmps43
    go_wp2_with fail
    refine (HPA.out).mono ?_
    rintro e w2 ⟨v, rfl, hv, hb2⟩
    obtain ⟨b, o, c, rfl, hc⟩ := HSL.out w2 v hv
    have HB := Lib.hid hb2; clear hb2 hv
    go_wp2_with (first
      | (go_at_call 70; refine (HD.out _).mono ?_; rintro e w2 ⟨rfl, hw2⟩; subst hw2)
      | (go_at_call 71; refine (HN.out _).mono ?_; rintro e w2 ⟨rfl, hw2⟩; subst hw2)
      | fail)
    go_ret
    exact ⟨rfl, HB.out⟩
theorem fp_one {C : Int} {i : Nat} {s : Int} {ps : List Bytes} {k : Nat} (h : k + 1 = ps.length) : fpGo C i s (ps.drop k) = match numG C (ps[k]'(by omega)) with | none => none | some n => if room i ≤ n then none else some (s + n) := by
  rw [List.drop_eq_getElem_cons (by omega), List.drop_of_length_le (by omega)]
  rfl
theorem fp_more {C : Int} {i : Nat} {s : Int} {ps : List Bytes} {k : Nat} (h : k + 1 < ps.length) : fpGo C i s (ps.drop k) = match numG C (ps[k]'(by omega)) with | none => none | some n => if 255 < n then none else fpGo C (i + 1) (s + n * room (i + 1)) (ps.drop (k + 1)) := by
  rw [List.drop_eq_getElem_cons (show k < ps.length by omega), List.drop_eq_getElem_cons h]
  rfl
abbrev RetU (o : Option Int) : Ending := .returned (.tuple #[.int .u32 (o.getD 0), .bool o.isSome])
set_option maxHeartbeats 4000000 in
theorem fparse_any (l : Bytes) (w : World) (hl : l.length ≤ 100000) (hE : Env w) : Calls Tryz.prog 44 #[.string (bs l)] w fun e w' => e = RetU (fparse l) ∧ Below w.heap.size w w' := by
  have hpa := parts_any l w hl hE
  have hsm := fun p (h : p ∈ partsF l) => parts_small h
  have hpn := parts_len l
  have hne := parts_ne l
  unfold fparse fpF
  have hrg : ∀ v, (partsF l).length ≤ 4 → fpGo 4294967296 0 0 (partsF l) = some v → 0 ≤ v ∧ v < 4294967296 := fun v h h2 => fp_range _ 0 0 v hne (by omega) (by omega) (by decide) h2
  generalize partsF l = ps at hpa hsm hpn hne hrg
  obtain ⟨N, hN⟩ : ∃ N, N = ps.length := ⟨_, rfl⟩
  have hN0 : N ≠ 0 := fun h => hne (List.eq_nil_of_length_eq_zero (by omega))
  have hsl : ∀ (w2 : World) (v : Value), Sl w2.heap.size w2 v (ps.map S) → ∃ b o c, v = .slice (some ⟨b, o, none⟩) N c ∧ b < w2.heap.size ∧ ∀ k (hk : k < ps.length), w2.cell? ⟨b, o + k, none⟩ = some (.string (bs ps[k])) := by
    intro w2 v h
    obtain ⟨a, c, rfl⟩ := slice_val h
    rw [List.length_map, ← hN] at h
    obtain ⟨b, o, rfl, hb, hc⟩ := strs_at h 0 (by omega)
    refine ⟨b, o, c, by rw [List.length_map, ← hN], hb, fun k hk => ?_⟩
    obtain ⟨b', o', he, _, hc'⟩ := strs_at h k hk
    injection he with he; injection he with e1 e2
    rw [e1, e2]; exact hc'
  obtain ⟨s, hs⟩ : ∃ s, s = bs l := ⟨_, rfl⟩
  rw [← hs] at hpa ⊢
  clear hs hE
  have HSL := Lib.hid hsl; clear hsl
  have HPA := Lib.hid hpa; clear hpa
  have HSM := Lib.hid hsm; clear hsm
  have HL := Lib.hid hl; clear hl
  have HRG := Lib.hid hrg; clear hrg
  rw [← hN] at hpn ⊢
  have hNm : N ≤ 1000000 := by have := HL.out; omega
  clear hpn hne
  by_cases h4 : 4 < N
  · rw [if_pos h4]
    clear hN
    go_enter Tryz.func44, Tryz.ntmps44
    go_wp2_with fail
    refine (HPA.out).mono ?_
    rintro e w2 ⟨v, rfl, hv, hb2⟩
    obtain ⟨b, o, c, rfl, hb, hc⟩ := HSL.out w2 v hv
    have HB := Lib.hid hb2; clear hb2 hv hc
    go_wp2_with fail
    go_ret2
    exact ⟨rfl, HB.out⟩
  · rw [if_neg h4]
    have HN := Lib.hid hN; clear hN
    obtain ⟨R, hR⟩ : ∃ R, R = fpGo 4294967296 0 0 ps := ⟨_, rfl⟩
    rw [← hR]
    have hrr : ∀ v, R = some v → 0 ≤ v ∧ v < 4294967296 := fun v h => HRG.out v (by rw [← HN.out]; omega) (by rw [← hR]; exact h)
    have HR := Lib.hid hR; clear hR
    have HRR := Lib.hid hrr; clear hrr HRG
    go_enter Tryz.func44, Tryz.ntmps44
    go_wp2_with fail
    refine (HPA.out).mono ?_
    rintro e w2 ⟨v, rfl, hv, hb2⟩
    obtain ⟨b, o, c, rfl, hb, hc⟩ := HSL.out w2 v hv
    have HB := Lib.hid hb2; clear hb2 hv
    have HC := Lib.hid hc; clear hc
    go_wp2_with fail
    go_loopw [5, 17] (fun sv iv wr => ∃ (k : Nat) (n : Int), k ≤ N ∧ iv = .int .i64 k ∧ sv = .int .i64 n ∧ Hid (fpGo 4294967296 k n (ps.drop k) = R) ∧ 0 ≤ n ∧ n ≤ 4294967296 ∧ (k < N → n + room k ≤ 4294967296) ∧ w2 = wr) (fun _ i _ => N - (intOf i).toNat)
    case atStart => exact ⟨0, 0, by omega, by simp, by simp, HR.out.symm, by omega, by omega, fun _ => by decide, rfl⟩
    case round =>
      obtain ⟨k, n, hk, rfl, rfl, hf, hn0, hn1, hn2, rfl⟩ := hrel
      by_cases hlt : k < N
      · have hkl : k < ps.length := by have := HN.out; omega
        have hcell := HC.out k hkl
        have hnm := fun W => fnum_any ps[k] W (by have := HSM.out ps[k] (List.getElem_mem hkl); have := HL.out; omega)
        have hge := fun v h => num_ge (C := 4294967296) (by decide) (s := ps[k]'hkl) (v := v) h
        have hf1 := hf.out
        by_cases hlast : k + 1 = N
        · rw [fp_one (by have := HN.out; omega)] at hf1
          generalize numG 4294967296 ps[k] = O at hnm hge hf1
          generalize bs ps[k] = u at hcell hnm
          have HNM := Lib.hid hnm; clear hnm hf
          cases O with
          | none =>
            have HF := Lib.hid (show none = R from hf1); clear hf1 hge
            have hw1 : IntKind.i64.wrap ((N : Int) - 1) = (k : Int) := by rw [IntWalk.i64_in _ (by omega)]; omega
            go_wp2_with (first
              | (go_at_call 71; refine (HNM.out _).mono ?_; rintro e w3 ⟨rfl, hw3⟩; subst hw3)
              | fail)
            go_ret2
            exact ⟨by rw [← HF.out]; rfl, HB.out⟩
          | some m =>
            have hm := hge m rfl
            have HF := Lib.hid (show (if room k ≤ m then none else some (n + m)) = R from hf1); clear hf1 hge
            have hw1 : IntKind.i64.wrap ((N : Int) - 1) = (k : Int) := by rw [IntWalk.i64_in _ (by omega)]; omega
            have hk4 : k = 0 ∨ k = 1 ∨ k = 2 ∨ k = 3 := by omega
            have hn2' := hn2 hlt
            have hws : IntKind.i64.wrap (n + m) = n + m := IntWalk.i64_in _ (by omega)
            by_cases hrm : room k ≤ m
            · rw [if_pos hrm] at HF
              clear hn2 hn2'
              have HLAST := Lib.hid hlast; clear hlast
              rcases hk4 with rfl | rfl | rfl | rfl
              all_goals
                simp only [room] at hrm
                try simp only [Nat.add_zero] at hcell
                go_wp2_with (first
                  | (go_at_call 71; refine (HNM.out _).mono ?_; rintro e w3 ⟨rfl, hw3⟩; subst hw3)
                  | fail)
                go_ret2
                exact ⟨by rw [← HF.out]; rfl, HB.out⟩
            · rw [if_neg hrm] at HF
              have hs2 : n + m ≤ 4294967296 := by omega
              have HR2 := Lib.hid (show fpGo 4294967296 (k + 1) (n + m) (ps.drop (k + 1)) = R by rw [List.drop_of_length_le (by have := HN.out; omega)]; exact HF.out)
              have hkn : ¬ k + 1 < N := by omega
              clear hn2 hn2'
              have HLAST := Lib.hid hlast; clear hlast
              have HKN := Lib.hid hkn; clear hkn
              rcases hk4 with rfl | rfl | rfl | rfl
              all_goals
                simp only [room] at hrm
                try simp only [Nat.add_zero] at hcell
                go_wp2_with (first
                  | (go_at_call 71; refine (HNM.out _).mono ?_; rintro e w3 ⟨rfl, hw3⟩; subst hw3)
                  | fail)
                go_roundw
                case rel => exact ⟨_, n + m, (by have := HLAST.out; omega), by rfl, by rfl, HR2.out, by omega, by omega, fun h => absurd h HKN.out, by trivial⟩
                case measure => simp [intOf]; omega
        · rw [fp_more (by have := HN.out; omega)] at hf1
          generalize numG 4294967296 ps[k] = O at hnm hge hf1
          generalize bs ps[k] = u at hcell hnm
          have HNM := Lib.hid hnm; clear hnm hf
          have hw1 : IntKind.i64.wrap ((N : Int) - 1) = (N : Int) - 1 := by rw [IntWalk.i64_in _ (by omega)]
          have hnl : ¬ (k : Int) = (N : Int) - 1 := by omega
          cases O with
          | none =>
            have HF := Lib.hid (show none = R from hf1); clear hf1 hge
            go_wp2_with (first
              | (go_at_call 71; refine (HNM.out _).mono ?_; rintro e w3 ⟨rfl, hw3⟩; subst hw3)
              | fail)
            go_ret2
            exact ⟨by rw [← HF.out]; rfl, HB.out⟩
          | some m =>
            have hm := hge m rfl
            have HF := Lib.hid (show (if 255 < m then none else fpGo 4294967296 (k + 1) (n + m * room (k + 1)) (ps.drop (k + 1))) = R from hf1); clear hf1 hge
            by_cases hm255 : 255 < m
            · rw [if_pos hm255] at HF
              go_wp2_with (first
                | (go_at_call 71; refine (HNM.out _).mono ?_; rintro e w3 ⟨rfl, hw3⟩; subst hw3)
                | fail)
              go_ret2
              exact ⟨by rw [← HF.out]; rfl, HB.out⟩
            · rw [if_neg hm255] at HF
              have hk4 : k = 0 ∨ k = 1 ∨ k = 2 := by omega
              have hn2' := hn2 hlt
              clear hn2
              rcases hk4 with rfl | rfl | rfl
              · simp only [room] at HF hn2'
                try simp only [Nat.add_zero] at hcell
                have hws1 : IntKind.i64.wrap (m * 16777216) = m * 16777216 := IntWalk.i64_in _ (by omega)
                have hws : IntKind.i64.wrap (n + m * 16777216) = n + m * 16777216 := IntWalk.i64_in _ (by omega)
                go_wp2_with (first
                  | (go_at_call 71; refine (HNM.out _).mono ?_; rintro e w3 ⟨rfl, hw3⟩; subst hw3)
                  | fail)
                have hn3 : n + m * 16777216 ≤ 4294967296 ∧ (1 < N → n + m * 16777216 + room (1) ≤ 4294967296) := ⟨by omega, fun _ => by show _ + _ + 16777216 ≤ _; omega⟩
                go_roundw
                case rel => exact ⟨1, n + m * 16777216, by omega, by rfl, by rfl, HF.out, by omega, hn3.1, hn3.2, by trivial⟩
                case measure => simp [intOf]; omega
              · simp only [room] at HF hn2'
                try simp only [Nat.add_zero] at hcell
                have hws1 : IntKind.i64.wrap (m * 65536) = m * 65536 := IntWalk.i64_in _ (by omega)
                have hws : IntKind.i64.wrap (n + m * 65536) = n + m * 65536 := IntWalk.i64_in _ (by omega)
                go_wp2_with (first
                  | (go_at_call 71; refine (HNM.out _).mono ?_; rintro e w3 ⟨rfl, hw3⟩; subst hw3)
                  | fail)
                have hn3 : n + m * 65536 ≤ 4294967296 ∧ (2 < N → n + m * 65536 + room (2) ≤ 4294967296) := ⟨by omega, fun _ => by show _ + _ + 65536 ≤ _; omega⟩
                go_roundw
                case rel => exact ⟨2, n + m * 65536, by omega, by rfl, by rfl, HF.out, by omega, hn3.1, hn3.2, by trivial⟩
                case measure => simp [intOf]; omega
              · simp only [room] at HF hn2'
                try simp only [Nat.add_zero] at hcell
                have hws1 : IntKind.i64.wrap (m * 256) = m * 256 := IntWalk.i64_in _ (by omega)
                have hws : IntKind.i64.wrap (n + m * 256) = n + m * 256 := IntWalk.i64_in _ (by omega)
                go_wp2_with (first
                  | (go_at_call 71; refine (HNM.out _).mono ?_; rintro e w3 ⟨rfl, hw3⟩; subst hw3)
                  | fail)
                have hn3 : n + m * 256 ≤ 4294967296 ∧ (3 < N → n + m * 256 + room (3) ≤ 4294967296) := ⟨by omega, fun _ => by show _ + _ + 256 ≤ _; omega⟩
                go_roundw
                case rel => exact ⟨3, n + m * 256, by omega, by rfl, by rfl, HF.out, by omega, hn3.1, hn3.2, by trivial⟩
                case measure => simp [intOf]; omega
      · obtain rfl : k = N := by omega
        have hf1 := hf.out
        rw [List.drop_of_length_le (by have := HN.out; omega)] at hf1
        have hfs : some n = R := hf1
        have hnr := HRR.out n hfs.symm
        have hwr : IntKind.u32.wrap n = n := by rw [IntKind.wrap_u32]; omega
        have HF := Lib.hid hfs; clear hf hf1 hfs
        clear hn2
        go_wp2_with fail
        go_ret2
        exact ⟨by rw [← HF.out]; rfl, HB.out⟩
end Go.Proofs.YtgfklkfbccknoaaGreatDoor

/- The reference's Parts and number of layer 9. -/
namespace Go.Proofs.YtgfklkfbccknoaaGreatDoor
open Go.RowKit
set_option maxRecDepth 10000

theorem nod_snoc {l : Bytes} {c : UInt8} {f k : Nat} (h : ∀ j (hj : j < l.length), f ≤ j → j < k → l[j] ≠ c) (hk : k < l.length) (hc : l[k] ≠ c) : ∀ j (hj : j < l.length), f ≤ j → j < k + 1 → l[j] ≠ c := by
  intro j hj h1 h2
  rcases Nat.lt_or_ge j k with h3 | h3
  · exact h j hj h1 h3
  · obtain rfl : j = k := by omega
    exact hc
theorem strs_snoc (o : List Bytes) (p : Bytes) : Strs (o ++ [p]) = Strs o ++ [.string (bs p)] := by simp
set_option maxHeartbeats 4000000 in
theorem rparts_any (l : Bytes) (w : World) (hl : l.length ≤ 100000) : Calls Tryz.prog 51 #[.string (bs l)] w (RetP w (partsF l)) := by
  obtain ⟨i1, hi1, hz1, hz2, hz3⟩ := info_parts str_info
  have hlen := cutC_len 46 l
  have hne : cutC 46 l ≠ [] := by obtain ⟨p, q, h⟩ := cutC_ne 46 l; rw [h]; simp
  have hpf : partsF l = if 1 < (cutC 46 l).length ∧ (cutC 46 l).getLast? = some [] then (cutC 46 l).dropLast else cutC 46 l := rfl
  obtain ⟨PR, hPR⟩ : ∃ PR, PR = partsF l := ⟨_, rfl⟩
  rw [← hPR] at hpf ⊢
  clear hPR
  obtain ⟨T, hT⟩ : ∃ T, T = cutC 46 l := ⟨_, rfl⟩
  rw [← hT] at hlen hne hpf
  have HPR := Lib.hid hpf; clear hpf
  have HT := Lib.hid hT; clear hT
  obtain ⟨s, hs⟩ : ∃ s, s = bs l := ⟨_, rfl⟩
  have hsz : s.size = l.length := by rw [hs, bs_size]
  have hby : ∀ k (hk : k < s.size) (hk2 : k < l.length), ((s[k]'hk).toNat : Int) = b2 l[k] := fun k hk hk2 => str_at hs hk hk2
  have hex : ∀ a b, s.extract a b = bs ((l.drop a).take (b - a)) := fun a b => by rw [hs, bs_extract]
  rw [← hs]
  clear hs
  obtain ⟨N, hN⟩ : ∃ N, N = s.size := ⟨_, rfl⟩
  have hsN : s.size = N := hN.symm
  have hNm : N ≤ 100000 := by omega
  have hTl : T.length ≤ N + 1 := by omega
  have HBY := Lib.hid hby; clear hby
  have HEX := Lib.hid hex; clear hex
  have HSZ := Lib.hid (show N = l.length by omega); clear hsz hl hN
  have HTL := Lib.hid hTl; clear hTl hlen
  have HNE := Lib.hid hne; clear hne
  go_enter Tryz.func51, Tryz.ntmps51
  go_wp2_with fail
  go_loopw [3, 4, 5] (fun ov fv iv wr => ∃ (k f : Nat) (o : List Bytes), k ≤ N + 1 ∧ iv = .int .i64 k ∧ fv = .int .i64 f ∧ wr.ownsRow w.heap.size 9 1 ov o.length (Strs o) ∧ Hid ((k ≤ N → o ++ cutC 46 (l.drop f) = T ∧ f ≤ k ∧ o.length ≤ k ∧ ∀ j (hj : j < l.length), f ≤ j → j < k → l[j] ≠ 46) ∧ (k = N + 1 → o = T)) ∧ w.heap.size ≤ wr.heap.size ∧ Below w.heap.size w wr) (fun _ _ i _ => N + 1 - (intOf i).toNat)
  case atStart => exact ⟨0, 0, [], by omega, by simp, by simp, ⟨by simp, .inl ⟨rfl, rfl⟩⟩, ⟨fun _ => ⟨by rw [HT.out]; rfl, by omega, by simp, fun j _ _ h => absurd h (Nat.not_lt_zero j)⟩, fun h => by omega⟩, Nat.le_refl _, Below.refl _ _⟩
  case round =>
    obtain ⟨k, f, o, hk, rfl, rfl, hown, hinv, hwz, hbel⟩ := hrel
    have HO := Lib.hid hown; clear hown
    have HB := Lib.hid hbel; clear hbel
    by_cases hlt : k < N
    · have hku : k < s.size := by omega
      have hkl : k < l.length := by have := HSZ.out; omega
      have hx := HBY.out k hku hkl
      obtain ⟨h1, hf, hol, hnd⟩ := hinv.out.1 (by omega)
      have hw1 : IntKind.i64.wrap ((k : Int) + 1) = ((k + 1 : Nat) : Int) := by rw [IntWalk.i64_in _ (by omega)]; omega
      by_cases hd : l[k] = 46
      · have hb : b2 l[k] = 46 := by rw [hd]; decide
        rw [hb] at hx
        have h2 := cutC_at hf hkl hd hnd
        obtain ⟨p, hp⟩ : ∃ p, p = (l.drop f).take (k - f) := ⟨_, rfl⟩
        have hex := HEX.out f k
        rw [← hp] at h2 hex
        rw [h2] at h1
        have HINV := Lib.hid (show (k + 1 ≤ N → (o ++ [p]) ++ cutC 46 (l.drop (k + 1)) = T ∧ k + 1 ≤ k + 1 ∧ (o ++ [p]).length ≤ k + 1 ∧ ∀ j (hj : j < l.length), k + 1 ≤ j → j < k + 1 → l[j] ≠ 46) ∧ (k + 1 = N + 1 → (o ++ [p]) = T) from ⟨fun _ => ⟨by rw [← h1]; simp, by omega, by simp; omega, fun j _ h1 h2 => by omega⟩, fun h => by omega⟩)
        clear h1 h2 hnd hp hinv hd hb
        have hsn := strs_snoc o p
        obtain ⟨u, hu⟩ : ∃ u, u = bs p := ⟨_, rfl⟩
        rw [← hu] at hex hsn
        obtain ⟨al, hal⟩ : ∃ al, al = o.length := ⟨_, rfl⟩
        have ho := HO.out
        rw [← hal] at ho hol
        have HO2 := Lib.hid ho; clear ho HO
        have HAL := Lib.hid hal; clear hal
        have HSN := Lib.hid hsn; clear hsn hu
        have hfs : f ≤ s.size := by omega
        obtain ⟨K, hK⟩ : ∃ K, K = k + 1 := ⟨_, rfl⟩
        rw [← hK] at hw1
        have HK := Lib.hid hK; clear hK
        go_wp2_with (at_builtin; (refine push1 rfl (.tmp 23) (.tmp 28) _ rfl w.heap.size 9 i1 (.string ⟨#[]⟩) 16 Tryz.underlying71 hi1 hz1 hz2 hz3 (by decide) _ _ _ (Strs o) rfl HO2.out (.string u) rfl rfl (by omega) (by decide) (by omega) ?_); intro v2 w2 hown2 hw2 hb2; have HOA := Lib.hid hown2; clear hown2; have HB2 := Lib.hid hb2; clear hb2)
        go_roundw
        case rel =>
          have hke := HK.out
          subst hke
          refine ⟨k + 1, k + 1, o ++ [p], by omega, by rfl, by rfl, ?_, HINV.out, by omega, HB.out.trans HB2.out⟩
          rw [HSN.out, List.length_append, ← HAL.out]
          exact HOA.out
        case measure => have := HK.out; simp [intOf]; omega
      · have hb : b2 l[k] ≠ 46 := fun h => hd (by have := b2_inj (x := l[k]) (y := 46) (by rw [h]; decide); exact this)
        have HINV := Lib.hid (show (k + 1 ≤ N → o ++ cutC 46 (l.drop f) = T ∧ f ≤ k + 1 ∧ o.length ≤ k + 1 ∧ ∀ j (hj : j < l.length), f ≤ j → j < k + 1 → l[j] ≠ 46) ∧ (k + 1 = N + 1 → o = T) from ⟨fun _ => ⟨h1, by omega, by omega, nod_snoc hnd hkl hd⟩, fun h => by omega⟩)
        clear h1 hnd hinv hd
        generalize b2 l[k] = X at hx hb
        have q0 : ((k : Int) == (N : Int)) = false := by simp; omega
        have q1 : (X == 46) = false := by simpa using hb
        go_wp2_with fail
        go_roundw
        case rel => exact ⟨k + 1, f, o, by omega, by simp, by rfl, HO.out, HINV.out, hwz, HB.out⟩
        case measure => simp [intOf]; omega
    · by_cases hkN : k = N
      · subst hkN
        obtain ⟨h1, hf, hol, hnd⟩ := hinv.out.1 (by omega)
        have h2 : cutC 46 (l.drop f) = [(l.drop f).take (k - f)] := by
          have h0 := HSZ.out
          have := cutC_end (c := 46) (t := l) (f := f) (fun j hj a b => hnd j hj a (by omega))
          rw [← h0] at this
          exact this
        obtain ⟨p, hp⟩ : ∃ p, p = (l.drop f).take (k - f) := ⟨_, rfl⟩
        have hex := HEX.out f k
        rw [← hp] at h2 hex
        rw [h2] at h1
        have hw1 : IntKind.i64.wrap ((k : Int) + 1) = ((k + 1 : Nat) : Int) := by rw [IntWalk.i64_in _ (by omega)]; omega
        have HINV := Lib.hid (show (k + 1 ≤ k → (o ++ [p]) ++ cutC 46 (l.drop (k + 1)) = T ∧ k + 1 ≤ k + 1 ∧ (o ++ [p]).length ≤ k + 1 ∧ ∀ j (hj : j < l.length), k + 1 ≤ j → j < k + 1 → l[j] ≠ 46) ∧ (k + 1 = k + 1 → (o ++ [p]) = T) from ⟨fun h => by omega, fun _ => h1⟩)
        clear h1 h2 hnd hp hinv
        have hsn := strs_snoc o p
        obtain ⟨u, hu⟩ : ∃ u, u = bs p := ⟨_, rfl⟩
        rw [← hu] at hex hsn
        obtain ⟨al, hal⟩ : ∃ al, al = o.length := ⟨_, rfl⟩
        have ho := HO.out
        rw [← hal] at ho hol
        have HO2 := Lib.hid ho; clear ho HO
        have HAL := Lib.hid hal; clear hal
        have HSN := Lib.hid hsn; clear hsn hu
        have hfs : f ≤ s.size := by omega
        go_wp2_with (at_builtin; (refine push1 rfl (.tmp 23) (.tmp 28) _ rfl w.heap.size 9 i1 (.string ⟨#[]⟩) 16 Tryz.underlying71 hi1 hz1 hz2 hz3 (by decide) _ _ _ (Strs o) rfl HO2.out (.string u) rfl rfl (by omega) (by decide) (by omega) ?_); intro v2 w2 hown2 hw2 hb2; have HOA := Lib.hid hown2; clear hown2; have HB2 := Lib.hid hb2; clear hb2)
        go_roundw
        case rel =>
          refine ⟨k + 1, k + 1, o ++ [p], by omega, by rfl, by rfl, ?_, HINV.out, by omega, HB.out.trans HB2.out⟩
          rw [HSN.out, List.length_append, ← HAL.out]
          exact HOA.out
        case measure => simp [intOf]; try omega
      · obtain rfl : k = N + 1 := by omega
        have hoT := hinv.out.2 rfl
        subst hoT
        clear hinv
        have hne := HNE.out
        have hTl := HTL.out
        obtain ⟨K, hK⟩ : ∃ K, o.length = K + 1 := ⟨o.length - 1, by have := List.length_pos_iff.mpr hne; omega⟩
        have hla := last_at hK
        have hKm : K ≤ 100000 := by omega
        have hsl := Sl.of_own HO.out
        obtain ⟨av, c, hv⟩ := slice_val hsl
        obtain ⟨M, hM⟩ : ∃ M, M = K + 1 := ⟨_, rfl⟩
        rw [show (Strs o).length = M by rw [List.length_map, hK, hM]] at hv
        subst hv
        obtain ⟨gb, go, rfl, hgb, hcell⟩ := strs_at (l := o) hsl K (by omega)
        have hpr := HPR.out
        rw [hla] at hpr
        have hw1 : IntKind.i64.wrap (((K + 1 : Nat) : Int) - 1) = (K : Int) := by rw [IntWalk.i64_in _ (by omega)]; omega
        obtain ⟨q, hq⟩ : ∃ q, q = o[K]'(by omega) := ⟨_, rfl⟩
        rw [← hq] at hcell hpr
        replace hcell : wr.cell? ⟨gb, go + K, none⟩ = some (.string (bs q)) := hcell
        have hpre : M ≠ 1 → Sl wr.heap.size wr (.slice (some ⟨gb, go, none⟩) K c) (o.dropLast.map S) := by
          intro _
          have := hsl.pre (by rw [List.length_map, hK, hM]) (by omega) K (by omega)
          rw [List.dropLast_eq_take, hK, Nat.add_sub_cancel, List.map_take]
          exact this
        rw [hK, ← hM] at hpr
        rw [← hM] at hw1
        have HSL := Lib.hid hsl
        have HPRE := Lib.hid hpre
        have hKM : K < M := by omega
        have HM := Lib.hid (show o.length = M by omega)
        clear hq hla hK hM hne hpre hsl
        have HKM := Lib.hid (show K ≠ 0 → M ≠ 1 by have := HM.out; omega)
        by_cases h1 : 1 < M
        · by_cases hqe : q = []
          · have he : (bs q).toList.isEmpty = true := by rw [toList_bs, hqe]; rfl
            have he2 : (bs q).toList = [] := by rw [toList_bs, hqe]
            rw [if_pos ⟨h1, by rw [hqe]⟩] at hpr
            have HPR2 := Lib.hid hpr; clear hpr HPR
            generalize bs q = u at hcell he he2
            clear hqe
            have hM1 : M ≠ 1 := by omega
            have hKc : K < c := by
              obtain ⟨c', h1, h2, h3⟩ := HSL.out
              have hml : (Strs o).length = M := by rw [List.length_map]; exact HM.out
              rcases h3 with ⟨hx, _⟩ | ⟨b', o', hb, hv, ha⟩
              · rw [hx] at hml; simp at hml; omega
              · injection hv with e1 e2 e3; omega
            have HP := Lib.hid (HPRE.out hM1)
            go_wp2_with fail
            go_ret
            exact ⟨_, rfl, by rw [HPR2.out]; exact HP.out, HB.out⟩
          · have he : (bs q).toList.isEmpty = false := by rw [toList_bs]; simpa using hqe
            have he2 : ¬ (bs q).toList = [] := by rw [toList_bs]; exact hqe
            rw [if_neg (fun a => hqe (by have := a.2; injection this))] at hpr
            have HPR2 := Lib.hid hpr; clear hpr HPR
            generalize bs q = u at hcell he he2
            clear hqe
            go_wp2_with fail
            go_ret
            exact ⟨_, rfl, by rw [HPR2.out]; exact HSL.out, HB.out⟩
        · rw [if_neg (fun a => h1 a.1)] at hpr
          have HPR2 := Lib.hid hpr; clear hpr HPR
          go_wp2_with fail
          go_ret
          exact ⟨_, rfl, by rw [HPR2.out]; exact HSL.out, HB.out⟩
end Go.Proofs.YtgfklkfbccknoaaGreatDoor

/- The reference's number, Ends and Parse of layer 9. -/
namespace Go.Proofs.YtgfklkfbccknoaaGreatDoor
open Go.RowKit
set_option maxRecDepth 10000

set_option maxHeartbeats 4000000 in
theorem rfnum_any (l : Bytes) (w : World) (hl : l.length ≤ 1000000) :
    Calls Tryz.prog 52 #[.string (bs l)] w fun e w' => e = RetN (numG 8589934592 l) .i64 ∧ w' = w := by
  by_cases hnil : l = []
  · subst hnil
    obtain ⟨s, hs⟩ : ∃ s, s = bs [] := ⟨_, rfl⟩
    have he2 : s.toList = [] := by rw [hs, toList_bs]
    have he : s.toList.isEmpty = true := by rw [he2]; rfl
    rw [← hs]
    clear hs hl
    go_enter Tryz.func52, Tryz.ntmps52
    go_wp2_with fail
    go_ret2
    exact ⟨rfl, rfl⟩
  have he2 : ¬ (bs l).toList = [] := by rw [toList_bs]; exact hnil
  have he : (bs l).toList.isEmpty = false := by rw [toList_bs]; simpa using hnil
  obtain ⟨R, hR⟩ : ∃ R, R = numG 8589934592 l := ⟨_, rfl⟩
  rw [← hR]
  -- what is read: its base, its text
  have hcase : (∃ c x t, l = c :: x :: t ∧ c = 48 ∧ (x = 120 ∨ x = 88) ∧ dgsGo 16 8589934592 0 t = R) ∨ (∃ c x t, l = c :: x :: t ∧ c = 48 ∧ ¬ (x = 120 ∨ x = 88) ∧ dgsGo 8 8589934592 0 (x :: t) = R) ∨ ((∀ c x t, l = c :: x :: t → c ≠ 48) ∧ dgsGo 10 8589934592 0 l = R) := by
    match l, hnil, hR with
    | [], h, _ => exact absurd rfl h
    | [c], _, hR => exact .inr (.inr ⟨by intro _ _ _ h; simp at h, hR.symm⟩)
    | c :: x :: t, _, hR =>
      rw [num_two] at hR
      by_cases hc : c = 48
      · rw [if_pos hc] at hR
        by_cases hx : x = 120 ∨ x = 88
        · rw [if_pos hx] at hR; exact .inl ⟨c, x, t, rfl, hc, hx, hR.symm⟩
        · rw [if_neg hx] at hR; exact .inr (.inl ⟨c, x, t, rfl, hc, hx, hR.symm⟩)
      · rw [if_neg hc] at hR; exact .inr (.inr ⟨by intro _ _ _ h; injection h with h; rw [← h]; exact hc, hR.symm⟩)
  clear hR hnil
  rcases hcase with ⟨c, x, t, rfl, hc, hx, hR⟩ | ⟨c, x, t, rfl, hc, hx, hR⟩ | ⟨hno, hR⟩
  · obtain ⟨N, hN⟩ : ∃ N, N = t.length := ⟨_, rfl⟩
    obtain ⟨s, hs⟩ : ∃ s, s = bs (c :: x :: t) := ⟨_, rfl⟩
    have hsz0 : s.size = N + 2 := by rw [hs, bs_size, hN]; rfl
    have hb0 : ∀ h : 0 < s.size, ((s[0]'h).toNat : Int) = 48 := by subst hs; intro h; show b2 c = 48; rw [hc]; decide
    obtain ⟨v, hv⟩ : ∃ v, v = bs (x :: t) := ⟨_, rfl⟩
    have hs1 : s.extract 1 (N + 2) = v := by rw [hs, hv, bs_extract]; congr 1; rw [hN]; simp
    have hsz1 : v.size = N + 1 := by rw [hv, bs_size, hN]; rfl
    obtain ⟨y, hy⟩ : ∃ y : Int, y = b2 x := ⟨_, rfl⟩
    have hb1 : ∀ h : 0 < v.size, ((v[0]'h).toNat : Int) = y := by subst hv; intro h; exact hy.symm
    have hyx : y = 120 ∨ y = 88 := by rcases hx with rfl | rfl <;> rw [hy] <;> decide
    obtain ⟨u, hu⟩ : ∃ u, u = bs t := ⟨_, rfl⟩
    have hs2 : v.extract 1 (N + 1) = u := by rw [hv, hu, bs_extract]; congr 1; rw [hN]; simp
    have hby : ∀ k (hk : k < u.size) (hk2 : k < t.length), ((u[k]'hk).toNat : Int) = b2 t[k] := fun k hk hk2 => str_at hu hk hk2
    have hsN : u.size = N := by rw [hu, bs_size, hN]
    rw [← hs] at he he2 ⊢
    have hx0 := hb0 (show 0 < s.size by rw [hsz0]; exact Nat.succ_pos _)
    have hx1 := hb1 (show 0 < v.size by rw [hsz1]; exact Nat.succ_pos _)
    have hNm : N ≤ 1000000 := by simp at hl; omega
    have HSZ := Lib.hid hN; clear hN
    have HBY := Lib.hid hby; clear hby
    have HR := Lib.hid hR; clear hR
    clear hs hv hu hb0 hb1 hy hc hx hl
    rcases hyx with rfl | rfl
    · go_enter Tryz.func52, Tryz.ntmps52
      go_wp2_with fail
      go_loopw [5, 6] (fun nv iv wr => ∃ (k : Nat) (n : Int), k ≤ N ∧ iv = .int .i64 k ∧ nv = .int .i64 n ∧ Hid (dgsGo 16 8589934592 n (t.drop k) = R) ∧ 0 ≤ n ∧ n ≤ 8589934592 ∧ w = wr) (fun _ i _ => N - (intOf i).toNat)
      case atStart => exact ⟨0, 0, Nat.zero_le _, by simp, by simp, HR.out, by omega, by omega, rfl⟩
      case round =>
        obtain ⟨k, n, hk, rfl, rfl, hd, hn0, hn1, rfl⟩ := hrel
        by_cases hlt : k < N
        · have hku : k < u.size := by rw [hsN]; exact hlt
          have hkl : k < t.length := by have := HSZ.out; omega
          have hx := HBY.out k hku hkl
          have hst := dgs_step 16 8589934592 n hkl
          rw [hd.out] at hst
          have hr := b2_lt (t[k]'hkl)
          have hda := fun W => digitR_any (b2 (t[k]'hkl)) 16 W hr (by omega)
          have hlo : -1 ≤ dgt (b2 (t[k]'hkl)) 16 ∧ dgt (b2 (t[k]'hkl)) 16 < 36 := by
            unfold dgt
            simp only
            split <;> (try split) <;> (try split) <;> (try split) <;> omega
          obtain ⟨D, hD⟩ : ∃ D, D = dgt (b2 (t[k]'hkl)) 16 := ⟨_, rfl⟩
          rw [← hD] at hst hda hlo
          clear hD
          generalize b2 (t[k]'hkl) = X at hx hr hda
          have HDA := Lib.hid hda; clear hda hd
          by_cases hD0 : D < 0
          · rw [if_pos hD0] at hst
            have HST := Lib.hid hst; clear hst
            go_wp2_with (first | (go_at_call 50; refine (HDA.out _).mono ?_; rintro e w2 ⟨rfl, rfl⟩) | fail)
            go_ret2
            exact ⟨by rw [HST.out]; rfl, rfl⟩
          · rw [if_neg hD0] at hst
            have hw1 : IntKind.i64.wrap (n * 16) = n * 16 := IntWalk.i64_in _ (by omega)
            have hw2 : IntKind.i64.wrap (n * 16 + D) = n * 16 + D := IntWalk.i64_in _ (by omega)
            by_cases hmn : n * 16 + D ≤ 8589934592
            · rw [show min (n * 16 + D) 8589934592 = n * 16 + D by omega] at hst
              have HST := Lib.hid hst; clear hst
              go_wp2_with (first | (go_at_call 50; refine (HDA.out _).mono ?_; rintro e w2 ⟨rfl, rfl⟩) | fail)
              go_roundw
              case rel => exact ⟨k + 1, n * 16 + D, by omega, by simp, by simp; try omega, HST.out.symm, by omega, by omega, by trivial⟩
              case measure => simp [intOf]; omega
            · rw [show min (n * 16 + D) 8589934592 = 8589934592 by omega] at hst
              have HST := Lib.hid hst; clear hst
              go_wp2_with (first | (go_at_call 50; refine (HDA.out _).mono ?_; rintro e w2 ⟨rfl, rfl⟩) | fail)
              go_roundw
              case rel => exact ⟨k + 1, 8589934592, by omega, by simp, by simp; try omega, HST.out.symm, by omega, by omega, by trivial⟩
              case measure => simp [intOf]; omega
        · obtain rfl : k = N := by omega
          have hdr : t.drop k = [] := List.drop_eq_nil_of_le (by have := HSZ.out; omega)
          have hd1 := hd.out
          rw [hdr] at hd1
          have HST := Lib.hid (show some n = R from hd1); clear hd1 hd
          go_wp2_with fail
          go_ret2
          exact ⟨by rw [← HST.out]; rfl, rfl⟩
    · go_enter Tryz.func52, Tryz.ntmps52
      go_wp2_with fail
      go_loopw [5, 6] (fun nv iv wr => ∃ (k : Nat) (n : Int), k ≤ N ∧ iv = .int .i64 k ∧ nv = .int .i64 n ∧ Hid (dgsGo 16 8589934592 n (t.drop k) = R) ∧ 0 ≤ n ∧ n ≤ 8589934592 ∧ w = wr) (fun _ i _ => N - (intOf i).toNat)
      case atStart => exact ⟨0, 0, Nat.zero_le _, by simp, by simp, HR.out, by omega, by omega, rfl⟩
      case round =>
        obtain ⟨k, n, hk, rfl, rfl, hd, hn0, hn1, rfl⟩ := hrel
        by_cases hlt : k < N
        · have hku : k < u.size := by rw [hsN]; exact hlt
          have hkl : k < t.length := by have := HSZ.out; omega
          have hx := HBY.out k hku hkl
          have hst := dgs_step 16 8589934592 n hkl
          rw [hd.out] at hst
          have hr := b2_lt (t[k]'hkl)
          have hda := fun W => digitR_any (b2 (t[k]'hkl)) 16 W hr (by omega)
          have hlo : -1 ≤ dgt (b2 (t[k]'hkl)) 16 ∧ dgt (b2 (t[k]'hkl)) 16 < 36 := by
            unfold dgt
            simp only
            split <;> (try split) <;> (try split) <;> (try split) <;> omega
          obtain ⟨D, hD⟩ : ∃ D, D = dgt (b2 (t[k]'hkl)) 16 := ⟨_, rfl⟩
          rw [← hD] at hst hda hlo
          clear hD
          generalize b2 (t[k]'hkl) = X at hx hr hda
          have HDA := Lib.hid hda; clear hda hd
          by_cases hD0 : D < 0
          · rw [if_pos hD0] at hst
            have HST := Lib.hid hst; clear hst
            go_wp2_with (first | (go_at_call 50; refine (HDA.out _).mono ?_; rintro e w2 ⟨rfl, rfl⟩) | fail)
            go_ret2
            exact ⟨by rw [HST.out]; rfl, rfl⟩
          · rw [if_neg hD0] at hst
            have hw1 : IntKind.i64.wrap (n * 16) = n * 16 := IntWalk.i64_in _ (by omega)
            have hw2 : IntKind.i64.wrap (n * 16 + D) = n * 16 + D := IntWalk.i64_in _ (by omega)
            by_cases hmn : n * 16 + D ≤ 8589934592
            · rw [show min (n * 16 + D) 8589934592 = n * 16 + D by omega] at hst
              have HST := Lib.hid hst; clear hst
              go_wp2_with (first | (go_at_call 50; refine (HDA.out _).mono ?_; rintro e w2 ⟨rfl, rfl⟩) | fail)
              go_roundw
              case rel => exact ⟨k + 1, n * 16 + D, by omega, by simp, by simp; try omega, HST.out.symm, by omega, by omega, by trivial⟩
              case measure => simp [intOf]; omega
            · rw [show min (n * 16 + D) 8589934592 = 8589934592 by omega] at hst
              have HST := Lib.hid hst; clear hst
              go_wp2_with (first | (go_at_call 50; refine (HDA.out _).mono ?_; rintro e w2 ⟨rfl, rfl⟩) | fail)
              go_roundw
              case rel => exact ⟨k + 1, 8589934592, by omega, by simp, by simp; try omega, HST.out.symm, by omega, by omega, by trivial⟩
              case measure => simp [intOf]; omega
        · obtain rfl : k = N := by omega
          have hdr : t.drop k = [] := List.drop_eq_nil_of_le (by have := HSZ.out; omega)
          have hd1 := hd.out
          rw [hdr] at hd1
          have HST := Lib.hid (show some n = R from hd1); clear hd1 hd
          go_wp2_with fail
          go_ret2
          exact ⟨by rw [← HST.out]; rfl, rfl⟩
  · obtain ⟨M, hM⟩ : ∃ M, M = t.length := ⟨_, rfl⟩
    obtain ⟨N, hN⟩ : ∃ N, N = M + 1 := ⟨_, rfl⟩
    obtain ⟨s, hs⟩ : ∃ s, s = bs (c :: x :: t) := ⟨_, rfl⟩
    have hsz0 : s.size = N + 1 := by rw [hs, bs_size, hN, hM]; rfl
    have hb0 : ∀ h : 0 < s.size, ((s[0]'h).toNat : Int) = 48 := by subst hs; intro h; show b2 c = 48; rw [hc]; decide
    obtain ⟨v, hv⟩ : ∃ v, v = bs (x :: t) := ⟨_, rfl⟩
    have hs1 : s.extract 1 (N + 1) = v := by rw [hs, hv, bs_extract]; congr 1; rw [hN, hM]; simp
    have hsN : v.size = N := by rw [hv, bs_size, hN, hM]; rfl
    obtain ⟨y, hy⟩ : ∃ y : Int, y = b2 x := ⟨_, rfl⟩
    have hb1 : ∀ h : 0 < v.size, ((v[0]'h).toNat : Int) = y := by subst hv; intro h; exact hy.symm
    have hyx : ¬ y = 120 := fun h => hx (.inl (b2_inj (y := 120) (by rw [← hy, h]; decide)))
    have hyx2 : ¬ y = 88 := fun h => hx (.inr (b2_inj (y := 88) (by rw [← hy, h]; decide)))
    have q1 : (y == 120) = false := by simpa using hyx
    have q2 : (y == 88) = false := by simpa using hyx2
    obtain ⟨m, hm⟩ : ∃ m, m = x :: t := ⟨_, rfl⟩
    rw [← hm] at hR hv
    have hml : m.length = t.length + 1 := by rw [hm]; rfl
    have hby : ∀ k (hk : k < v.size) (hk2 : k < m.length), ((v[k]'hk).toNat : Int) = b2 m[k] := fun k hk hk2 => str_at hv hk hk2
    rw [← hs] at he he2 ⊢
    have hN0 : 0 < N := by omega
    have hx0 := hb0 (show 0 < s.size by rw [hsz0]; exact Nat.succ_pos _)
    have hx1 := hb1 (show 0 < v.size by rw [hsN]; exact hN0)
    have hNm : N ≤ 1000000 := by simp at hl; omega
    have HSZ := Lib.hid (show N = m.length by omega)
    have HBY := Lib.hid hby; clear hby
    have HR := Lib.hid hR; clear hR
    have HN0 := Lib.hid (show 1 < N + 1 by omega)
    clear hs hv hb0 hb1 hy hc hx hl hm hml hN hM
    go_enter Tryz.func52, Tryz.ntmps52
    go_wp2_with fail
    go_loopw [5, 6] (fun nv iv wr => ∃ (k : Nat) (n : Int), k ≤ N ∧ iv = .int .i64 k ∧ nv = .int .i64 n ∧ Hid (dgsGo 8 8589934592 n (m.drop k) = R) ∧ 0 ≤ n ∧ n ≤ 8589934592 ∧ w = wr) (fun _ i _ => N - (intOf i).toNat)
    case atStart => exact ⟨0, 0, Nat.zero_le _, by simp, by simp, HR.out, by omega, by omega, rfl⟩
    case round =>
      obtain ⟨k, n, hk, rfl, rfl, hd, hn0, hn1, rfl⟩ := hrel
      by_cases hlt : k < N
      · have hku : k < v.size := by rw [hsN]; exact hlt
        have hkl : k < m.length := by have := HSZ.out; omega
        have hx := HBY.out k hku hkl
        have hst := dgs_step 8 8589934592 n hkl
        rw [hd.out] at hst
        have hr := b2_lt (m[k]'hkl)
        have hda := fun W => digitR_any (b2 (m[k]'hkl)) 8 W hr (by omega)
        have hlo : -1 ≤ dgt (b2 (m[k]'hkl)) 8 ∧ dgt (b2 (m[k]'hkl)) 8 < 36 := by
          unfold dgt
          simp only
          split <;> (try split) <;> (try split) <;> (try split) <;> omega
        obtain ⟨D, hD⟩ : ∃ D, D = dgt (b2 (m[k]'hkl)) 8 := ⟨_, rfl⟩
        rw [← hD] at hst hda hlo
        clear hD
        generalize b2 (m[k]'hkl) = X at hx hr hda
        have HDA := Lib.hid hda; clear hda hd
        by_cases hD0 : D < 0
        · rw [if_pos hD0] at hst
          have HST := Lib.hid hst; clear hst
          go_wp2_with (first | (go_at_call 50; refine (HDA.out _).mono ?_; rintro e w2 ⟨rfl, rfl⟩) | fail)
          go_ret2
          exact ⟨by rw [HST.out]; rfl, rfl⟩
        · rw [if_neg hD0] at hst
          have hw1 : IntKind.i64.wrap (n * 8) = n * 8 := IntWalk.i64_in _ (by omega)
          have hw2 : IntKind.i64.wrap (n * 8 + D) = n * 8 + D := IntWalk.i64_in _ (by omega)
          by_cases hmn : n * 8 + D ≤ 8589934592
          · rw [show min (n * 8 + D) 8589934592 = n * 8 + D by omega] at hst
            have HST := Lib.hid hst; clear hst
            go_wp2_with (first | (go_at_call 50; refine (HDA.out _).mono ?_; rintro e w2 ⟨rfl, rfl⟩) | fail)
            go_roundw
            case rel => exact ⟨k + 1, n * 8 + D, by omega, by simp, by simp; try omega, HST.out.symm, by omega, by omega, by trivial⟩
            case measure => simp [intOf]; omega
          · rw [show min (n * 8 + D) 8589934592 = 8589934592 by omega] at hst
            have HST := Lib.hid hst; clear hst
            go_wp2_with (first | (go_at_call 50; refine (HDA.out _).mono ?_; rintro e w2 ⟨rfl, rfl⟩) | fail)
            go_roundw
            case rel => exact ⟨k + 1, 8589934592, by omega, by simp, by simp; try omega, HST.out.symm, by omega, by omega, by trivial⟩
            case measure => simp [intOf]; omega
      · obtain rfl : k = N := by omega
        have hdr : m.drop k = [] := List.drop_eq_nil_of_le (by have := HSZ.out; omega)
        have hd1 := hd.out
        rw [hdr] at hd1
        have HST := Lib.hid (show some n = R from hd1); clear hd1 hd
        go_wp2_with fail
        go_ret2
        exact ⟨by rw [← HST.out]; rfl, rfl⟩
  · obtain ⟨s, hs⟩ : ∃ s, s = bs l := ⟨_, rfl⟩
    have hsz0 : s.size = l.length := by rw [hs, bs_size]
    have hby : ∀ k (hk : k < s.size) (hk2 : k < l.length), ((s[k]'hk).toNat : Int) = b2 l[k] := fun k hk hk2 => str_at hs hk hk2
    obtain ⟨N, hN⟩ : ∃ N, N = s.size := ⟨_, rfl⟩
    have hsN : s.size = N := hN.symm
    rw [← hs] at he he2 ⊢
    have hNm : N ≤ 1000000 := by omega
    have hlong : 1 < N → ∃ h : 0 < s.size, ¬ ((s[0]'h).toNat : Int) = 48 := by
      intro h1
      match l, hno, hsz0, hs with
      | [], _, hz, _ => exact absurd (hsN.symm.trans hz) (by show N ≠ 0; omega)
      | [c], _, hz, _ => exact absurd (hsN.symm.trans hz) (by show N ≠ 1; omega)
      | c :: x :: t, hno, hz, hs =>
        subst hs
        refine ⟨by rw [bs_size]; exact Nat.succ_pos _, fun h => hno c x t rfl (b2_inj (y := 48) ?_)⟩
        exact h.trans (by decide)
    have HSZ := Lib.hid (show N = l.length by omega); clear hN
    have HBY := Lib.hid hby; clear hby
    have HR := Lib.hid hR; clear hR
    clear hs hl hno hsz0
    by_cases h1N : 1 < N
    · obtain ⟨hs0, hc0⟩ := hlong h1N
      clear hlong
      generalize hg0 : ((s[0]'hs0).toNat : Int) = C0 at hc0
      have q0 : (C0 == 48) = false := by simpa using hc0
      go_enter Tryz.func52, Tryz.ntmps52
      go_wp2_with fail
      go_loopw [5, 6] (fun nv iv wr => ∃ (k : Nat) (n : Int), k ≤ N ∧ iv = .int .i64 k ∧ nv = .int .i64 n ∧ Hid (dgsGo 10 8589934592 n (l.drop k) = R) ∧ 0 ≤ n ∧ n ≤ 8589934592 ∧ w = wr) (fun _ i _ => N - (intOf i).toNat)
      case atStart => exact ⟨0, 0, Nat.zero_le _, by simp, by simp, HR.out, by omega, by omega, rfl⟩
      case round =>
        obtain ⟨k, n, hk, rfl, rfl, hd, hn0, hn1, rfl⟩ := hrel
        by_cases hlt : k < N
        · have hku : k < s.size := by rw [hsN]; exact hlt
          have hkl : k < l.length := by have := HSZ.out; omega
          have hx := HBY.out k hku hkl
          have hst := dgs_step 10 8589934592 n hkl
          rw [hd.out] at hst
          have hr := b2_lt (l[k]'hkl)
          have hda := fun W => digitR_any (b2 (l[k]'hkl)) 10 W hr (by omega)
          have hlo : -1 ≤ dgt (b2 (l[k]'hkl)) 10 ∧ dgt (b2 (l[k]'hkl)) 10 < 36 := by
            unfold dgt
            simp only
            split <;> (try split) <;> (try split) <;> (try split) <;> omega
          obtain ⟨D, hD⟩ : ∃ D, D = dgt (b2 (l[k]'hkl)) 10 := ⟨_, rfl⟩
          rw [← hD] at hst hda hlo
          clear hD
          generalize b2 (l[k]'hkl) = X at hx hr hda
          have HDA := Lib.hid hda; clear hda hd
          by_cases hD0 : D < 0
          · rw [if_pos hD0] at hst
            have HST := Lib.hid hst; clear hst
            go_wp2_with (first | (go_at_call 50; refine (HDA.out _).mono ?_; rintro e w2 ⟨rfl, rfl⟩) | fail)
            go_ret2
            exact ⟨by rw [HST.out]; rfl, rfl⟩
          · rw [if_neg hD0] at hst
            have hw1 : IntKind.i64.wrap (n * 10) = n * 10 := IntWalk.i64_in _ (by omega)
            have hw2 : IntKind.i64.wrap (n * 10 + D) = n * 10 + D := IntWalk.i64_in _ (by omega)
            by_cases hmn : n * 10 + D ≤ 8589934592
            · rw [show min (n * 10 + D) 8589934592 = n * 10 + D by omega] at hst
              have HST := Lib.hid hst; clear hst
              go_wp2_with (first | (go_at_call 50; refine (HDA.out _).mono ?_; rintro e w2 ⟨rfl, rfl⟩) | fail)
              go_roundw
              case rel => exact ⟨k + 1, n * 10 + D, by omega, by simp, by simp; try omega, HST.out.symm, by omega, by omega, by trivial⟩
              case measure => simp [intOf]; omega
            · rw [show min (n * 10 + D) 8589934592 = 8589934592 by omega] at hst
              have HST := Lib.hid hst; clear hst
              go_wp2_with (first | (go_at_call 50; refine (HDA.out _).mono ?_; rintro e w2 ⟨rfl, rfl⟩) | fail)
              go_roundw
              case rel => exact ⟨k + 1, 8589934592, by omega, by simp, by simp; try omega, HST.out.symm, by omega, by omega, by trivial⟩
              case measure => simp [intOf]; omega
        · obtain rfl : k = N := by omega
          have hdr : l.drop k = [] := List.drop_eq_nil_of_le (by have := HSZ.out; omega)
          have hd1 := hd.out
          rw [hdr] at hd1
          have HST := Lib.hid (show some n = R from hd1); clear hd1 hd
          go_wp2_with fail
          go_ret2
          exact ⟨by rw [← HST.out]; rfl, rfl⟩
    · clear hlong
      go_enter Tryz.func52, Tryz.ntmps52
      go_wp2_with fail
      go_loopw [5, 6] (fun nv iv wr => ∃ (k : Nat) (n : Int), k ≤ N ∧ iv = .int .i64 k ∧ nv = .int .i64 n ∧ Hid (dgsGo 10 8589934592 n (l.drop k) = R) ∧ 0 ≤ n ∧ n ≤ 8589934592 ∧ w = wr) (fun _ i _ => N - (intOf i).toNat)
      case atStart => exact ⟨0, 0, Nat.zero_le _, by simp, by simp, HR.out, by omega, by omega, rfl⟩
      case round =>
        obtain ⟨k, n, hk, rfl, rfl, hd, hn0, hn1, rfl⟩ := hrel
        by_cases hlt : k < N
        · have hku : k < s.size := by rw [hsN]; exact hlt
          have hkl : k < l.length := by have := HSZ.out; omega
          have hx := HBY.out k hku hkl
          have hst := dgs_step 10 8589934592 n hkl
          rw [hd.out] at hst
          have hr := b2_lt (l[k]'hkl)
          have hda := fun W => digitR_any (b2 (l[k]'hkl)) 10 W hr (by omega)
          have hlo : -1 ≤ dgt (b2 (l[k]'hkl)) 10 ∧ dgt (b2 (l[k]'hkl)) 10 < 36 := by
            unfold dgt
            simp only
            split <;> (try split) <;> (try split) <;> (try split) <;> omega
          obtain ⟨D, hD⟩ : ∃ D, D = dgt (b2 (l[k]'hkl)) 10 := ⟨_, rfl⟩
          rw [← hD] at hst hda hlo
          clear hD
          generalize b2 (l[k]'hkl) = X at hx hr hda
          have HDA := Lib.hid hda; clear hda hd
          by_cases hD0 : D < 0
          · rw [if_pos hD0] at hst
            have HST := Lib.hid hst; clear hst
            go_wp2_with (first | (go_at_call 50; refine (HDA.out _).mono ?_; rintro e w2 ⟨rfl, rfl⟩) | fail)
            go_ret2
            exact ⟨by rw [HST.out]; rfl, rfl⟩
          · rw [if_neg hD0] at hst
            have hw1 : IntKind.i64.wrap (n * 10) = n * 10 := IntWalk.i64_in _ (by omega)
            have hw2 : IntKind.i64.wrap (n * 10 + D) = n * 10 + D := IntWalk.i64_in _ (by omega)
            by_cases hmn : n * 10 + D ≤ 8589934592
            · rw [show min (n * 10 + D) 8589934592 = n * 10 + D by omega] at hst
              have HST := Lib.hid hst; clear hst
              go_wp2_with (first | (go_at_call 50; refine (HDA.out _).mono ?_; rintro e w2 ⟨rfl, rfl⟩) | fail)
              go_roundw
              case rel => exact ⟨k + 1, n * 10 + D, by omega, by simp, by simp; try omega, HST.out.symm, by omega, by omega, by trivial⟩
              case measure => simp [intOf]; omega
            · rw [show min (n * 10 + D) 8589934592 = 8589934592 by omega] at hst
              have HST := Lib.hid hst; clear hst
              go_wp2_with (first | (go_at_call 50; refine (HDA.out _).mono ?_; rintro e w2 ⟨rfl, rfl⟩) | fail)
              go_roundw
              case rel => exact ⟨k + 1, 8589934592, by omega, by simp, by simp; try omega, HST.out.symm, by omega, by omega, by trivial⟩
              case measure => simp [intOf]; omega
        · obtain rfl : k = N := by omega
          have hdr : l.drop k = [] := List.drop_eq_nil_of_le (by have := HSZ.out; omega)
          have hd1 := hd.out
          rw [hdr] at hd1
          have HST := Lib.hid (show some n = R from hd1); clear hd1 hd
          go_wp2_with fail
          go_ret2
          exact ⟨by rw [← HST.out]; rfl, rfl⟩
end Go.Proofs.YtgfklkfbccknoaaGreatDoor

/- The reference's Ends and Parse of layer 9. -/
namespace Go.Proofs.YtgfklkfbccknoaaGreatDoor
open Go.RowKit
set_option maxRecDepth 10000

theorem dgs_all (b C : Int) : ∀ (l : Bytes) (n : Int), (∀ j (hj : j < l.length), 0 ≤ dgt (b2 l[j]) b) → (dgsGo b C n l).isSome = true
  | [], _, _ => rfl
  | c :: t, n, h => by
    have h0 := h 0 (by simp)
    unfold dgsGo
    rw [if_neg (by simp at h0; omega)]
    exact dgs_all b C t _ (fun j hj => by have := h (j + 1) (by simp; omega); simpa using this)
theorem dgs_none (b C : Int) : ∀ (l : Bytes) (n : Int) (j : Nat) (hj : j < l.length), dgt (b2 l[j]) b < 0 → dgsGo b C n l = none
  | [], _, _, hj, _ => absurd hj (by simp)
  | c :: t, n, j, hj, h => by
    unfold dgsGo
    split
    · rfl
    · next hc =>
      cases j with
      | zero => exact absurd h hc
      | succ j => exact dgs_none b C t _ j (by simpa using hj) (by simpa using h)
set_option maxHeartbeats 4000000 in
theorem rends_any (l : Bytes) (w : World) (hl : l.length ≤ 100000) : Calls Tryz.prog 29 #[.string (bs l)] w fun e w' => e = .returned (.bool (endsF l)) ∧ Below w.heap.size w w' := by
  have hpa := rparts_any l w hl
  have hsm := fun p (h : p ∈ partsF l) => parts_small h
  have hpn := parts_len l
  have hef : endsF l = lastF ((partsF l).getLast (parts_ne l)) := rfl
  have hne := parts_ne l
  rw [hef]
  clear hef
  have hla : ∀ (ps : List Bytes) (h : ps ≠ []) (K : Nat) (hK : ps.length = K + 1), ps.getLast h = ps[K]'(by omega) := fun ps h K hK => by rw [List.getLast_eq_getElem]; congr 1; omega
  obtain ⟨K, hK⟩ : ∃ K, (partsF l).length = K + 1 := ⟨(partsF l).length - 1, by have := List.length_pos_iff.mpr hne; omega⟩
  obtain ⟨q, hq0⟩ : ∃ q, q = (partsF l).getLast (parts_ne l) := ⟨_, rfl⟩
  have hqq := hq0
  rw [hla _ _ K hK] at hqq
  rw [← hq0]
  clear hq0
  generalize partsF l = ps at hpa hsm hpn hne hK hqq
  have hq : q.length ≤ l.length := by rw [hqq]; exact hsm _ (List.getElem_mem _)
  have hKm : K ≤ 100000 := by omega
  have hn := fun W => rfnum_any q W (by omega)
  have hcap := num_cap q
  have hda := fun h => dgs_all 10 4294967296 q 0 h
  have hdn := fun j hj h => dgs_none 10 4294967296 q 0 j hj h
  obtain ⟨R, hR⟩ : ∃ R, R = lastF q := ⟨_, rfl⟩
  rw [← hR]
  unfold lastF at hR
  rw [hcap] at hR
  clear hcap hsm hpn hla
  generalize numG 8589934592 q = o2 at hn hR
  have hsl : ∀ (w2 : World) (v : Value), Sl w2.heap.size w2 v (ps.map S) → ∃ b o c, v = .slice (some ⟨b, o, none⟩) (K + 1) c ∧ w2.cell? ⟨b, o + K, none⟩ = some (.string (bs q)) := by
    intro w2 v h
    obtain ⟨a, c, rfl⟩ := slice_val h
    rw [List.length_map, hK] at h ⊢
    obtain ⟨b, o, rfl, _, hc⟩ := strs_at h K (by omega)
    exact ⟨b, o, c, rfl, by rw [hqq]; exact hc⟩
  obtain ⟨N, hN⟩ : ∃ N, N = K + 1 := ⟨_, rfl⟩
  have hw1 : IntKind.i64.wrap (((K + 1 : Nat) : Int) - 1) = (K : Int) := by rw [IntWalk.i64_in _ (by omega)]; omega
  rw [← hN] at hsl hw1
  have hKN : K < N := by omega
  have HSL := Lib.hid hsl; clear hsl
  have HN := Lib.hid hn; clear hn
  have HPA := Lib.hid hpa; clear hpa
  obtain ⟨s, hs⟩ : ∃ s, s = bs l := ⟨_, rfl⟩
  rw [← hs] at HPA ⊢
  obtain ⟨u, hu⟩ : ∃ u, u = bs q := ⟨_, rfl⟩
  rw [← hu] at HSL HN
  have hby : ∀ k (hk : k < u.size) (hk2 : k < q.length), ((u[k]'hk).toNat : Int) = b2 q[k] := fun k hk hk2 => str_at hu hk hk2
  have hsu : u.size = q.length := by rw [hu, bs_size]
  have hue : (u.toList = []) ↔ q = [] := by rw [hu, toList_bs]
  have hqm : q.length ≤ 100000 := by omega
  clear hs hu hqq hK hN hq hl
  cases o2 with
  | some d =>
    have HR := Lib.hid (show true = R by rw [hR]; rfl); clear hR
    clear hda hdn hby hue
    go_enter Tryz.func29, Tryz.ntmps29
    go_wp2_with fail
    refine (HPA.out).mono ?_
    rintro e w2 ⟨v, rfl, hv, hb2⟩
    obtain ⟨b, o, c, rfl, hc⟩ := HSL.out w2 v hv
    have HB := Lib.hid hb2; clear hb2 hv
    go_wp2_with (first
      | (go_at_call 52; refine (HN.out _).mono ?_; rintro e w2 ⟨rfl, hw2⟩; subst hw2)
      | fail)
    go_ret
    exact ⟨by rw [← HR.out]; rfl, HB.out⟩
  | none =>
    obtain ⟨M, hM⟩ : ∃ M, M = u.size := ⟨_, rfl⟩
    have hsM : u.size = M := hM.symm
    have hMm : M ≤ 100000 := by omega
    have HSZ := Lib.hid (show M = q.length by omega); clear hM hsu
    have HR := Lib.hid (show R = decide (q ≠ [] ∧ (dgsGo 10 4294967296 0 q).isSome = true) from hR); clear hR
    have HDA := Lib.hid hda; clear hda
    have HDN := Lib.hid hdn; clear hdn
    have HBY := Lib.hid hby; clear hby
    have HUE := Lib.hid hue; clear hue
    go_enter Tryz.func29, Tryz.ntmps29
    go_wp2_with fail
    refine (HPA.out).mono ?_
    rintro e w2 ⟨v, rfl, hv, hb2⟩
    obtain ⟨b, o, c, rfl, hc⟩ := HSL.out w2 v hv
    have HB := Lib.hid hb2; clear hb2 hv
    go_wp2_with (first
      | (go_at_call 52; refine (HN.out _).mono ?_; rintro e w2 ⟨rfl, hw2⟩; subst hw2)
      | fail)
    go_loopw [7] (fun iv wr => ∃ (k : Nat), k ≤ M ∧ iv = .int .i64 k ∧ Hid (∀ j (hj : j < q.length), j < k → 0 ≤ dgt (b2 q[j]) 10) ∧ w2 = wr) (fun i _ => M - (intOf i).toNat)
    case atStart => exact ⟨0, Nat.zero_le _, by simp, fun j _ h => absurd h (Nat.not_lt_zero j), rfl⟩
    case round =>
      obtain ⟨k, hk, rfl, hall, rfl⟩ := hrel
      by_cases hlt : k < M
      · have hku : k < u.size := by rw [hsM]; exact hlt
        have hkl : k < q.length := by have := HSZ.out; omega
        have hx := HBY.out k hku hkl
        have hr := b2_lt (q[k]'hkl)
        have hdd := fun W => digitR_any (b2 (q[k]'hkl)) 10 W hr (by omega)
        have hdb := HDN.out k hkl
        have hsn : 0 ≤ dgt (b2 (q[k]'hkl)) 10 → ∀ j (hj : j < q.length), j < k + 1 → 0 ≤ dgt (b2 q[j]) 10 := fun h j hj h1 => by
          rcases Nat.lt_or_ge j k with h2 | h2
          · exact hall.out j hj h2
          · obtain rfl : j = k := by omega
            exact h
        obtain ⟨D, hD⟩ : ∃ D, D = dgt (b2 (q[k]'hkl)) 10 := ⟨_, rfl⟩
        rw [← hD] at hdd hdb hsn
        clear hD
        generalize b2 (q[k]'hkl) = X at hx hr hdd
        have HDD := Lib.hid hdd; clear hdd
        by_cases hD0 : D < 0
        · have HF := Lib.hid (show R = false by rw [HR.out, hdb hD0]; simp); clear hdb hsn hall
          go_wp2_with (first | (go_at_call 50; refine (HDD.out _).mono ?_; rintro e w2 ⟨rfl, rfl⟩) | fail)
          go_ret
          exact ⟨by rw [HF.out]; rfl, HB.out⟩
        · have HSN := Lib.hid (hsn (by omega)); clear hdb hsn hall
          go_wp2_with (first | (go_at_call 50; refine (HDD.out _).mono ?_; rintro e w2 ⟨rfl, rfl⟩) | fail)
          go_roundw
          case rel => exact ⟨k + 1, by omega, by simp, HSN.out, by trivial⟩
          case measure => simp [intOf]; omega
      · obtain rfl : k = M := by omega
        have hs := HDA.out (fun j hj => hall.out j hj (by have := HSZ.out; omega))
        have hr := HR.out
        rw [hs] at hr
        have hr2 : R = !u.toList.isEmpty := by
          rw [hr]
          by_cases h : q = []
          · rw [HUE.out.mpr h, h]; rfl
          · have hu : ¬ u.toList = [] := fun a => h (HUE.out.mp a)
            simp [h, hu]
        have HF := Lib.hid hr2; clear hs hr hr2 hall
        go_wp2_with fail
        go_ret
        exact ⟨by rw [HF.out]; try rfl, HB.out⟩
set_option maxHeartbeats 4000000 in
theorem rfparse_any (l : Bytes) (w : World) (hl : l.length ≤ 100000) : Calls Tryz.prog 30 #[.string (bs l)] w fun e w' => e = RetU (fparse l) ∧ Below w.heap.size w w' := by
  have hpa := rparts_any l w hl
  have hsm := fun p (h : p ∈ partsF l) => parts_small h
  have hpn := parts_len l
  have hne := parts_ne l
  unfold fparse fpF
  rw [← fp_cap]
  have hrg : ∀ v, (partsF l).length ≤ 4 → fpGo 8589934592 0 0 (partsF l) = some v → 0 ≤ v ∧ v < 4294967296 := fun v h h2 => fp_range _ 0 0 v hne (by omega) (by omega) (by decide) (by rw [← fp_cap]; exact h2)
  generalize partsF l = ps at hpa hsm hpn hne hrg
  obtain ⟨N, hN⟩ : ∃ N, N = ps.length := ⟨_, rfl⟩
  have hN0 : N ≠ 0 := fun h => hne (List.eq_nil_of_length_eq_zero (by omega))
  have hsl : ∀ (w2 : World) (v : Value), Sl w2.heap.size w2 v (ps.map S) → ∃ b o c, v = .slice (some ⟨b, o, none⟩) N c ∧ b < w2.heap.size ∧ ∀ k (hk : k < ps.length), w2.cell? ⟨b, o + k, none⟩ = some (.string (bs ps[k])) := by
    intro w2 v h
    obtain ⟨a, c, rfl⟩ := slice_val h
    rw [List.length_map, ← hN] at h
    obtain ⟨b, o, rfl, hb, hc⟩ := strs_at h 0 (by omega)
    refine ⟨b, o, c, by rw [List.length_map, ← hN], hb, fun k hk => ?_⟩
    obtain ⟨b', o', he, _, hc'⟩ := strs_at h k hk
    injection he with he; injection he with e1 e2
    rw [e1, e2]; exact hc'
  obtain ⟨s, hs⟩ : ∃ s, s = bs l := ⟨_, rfl⟩
  rw [← hs] at hpa ⊢
  clear hs
  have HSL := Lib.hid hsl; clear hsl
  have HPA := Lib.hid hpa; clear hpa
  have HSM := Lib.hid hsm; clear hsm
  have HL := Lib.hid hl; clear hl
  have HRG := Lib.hid hrg; clear hrg
  rw [← hN] at hpn ⊢
  have hNm : N ≤ 1000000 := by have := HL.out; omega
  clear hpn hne
  by_cases h4 : 4 < N
  · rw [if_pos h4]
    clear hN
    go_enter Tryz.func30, Tryz.ntmps30
    go_wp2_with fail
    refine (HPA.out).mono ?_
    rintro e w2 ⟨v, rfl, hv, hb2⟩
    obtain ⟨b, o, c, rfl, hb, hc⟩ := HSL.out w2 v hv
    have HB := Lib.hid hb2; clear hb2 hv hc
    go_wp2_with fail
    go_ret2
    exact ⟨rfl, HB.out⟩
  · rw [if_neg h4]
    have HN := Lib.hid hN; clear hN
    obtain ⟨R, hR⟩ : ∃ R, R = fpGo 8589934592 0 0 ps := ⟨_, rfl⟩
    rw [← hR]
    have hrr : ∀ v, R = some v → 0 ≤ v ∧ v < 4294967296 := fun v h => HRG.out v (by rw [← HN.out]; omega) (by rw [← hR]; exact h)
    have HR := Lib.hid hR; clear hR
    have HRR := Lib.hid hrr; clear hrr HRG
    go_enter Tryz.func30, Tryz.ntmps30
    go_wp2_with fail
    refine (HPA.out).mono ?_
    rintro e w2 ⟨v, rfl, hv, hb2⟩
    obtain ⟨b, o, c, rfl, hb, hc⟩ := HSL.out w2 v hv
    have HB := Lib.hid hb2; clear hb2 hv
    have HC := Lib.hid hc; clear hc
    go_wp2_with fail
    go_loopw [6, 7, 8] (fun sv rv iv wr => ∃ (k : Nat) (n : Int), k ≤ N ∧ iv = .int .i64 k ∧ sv = .int .i64 n ∧ rv = .int .i64 (room k) ∧ Hid (fpGo 8589934592 k n (ps.drop k) = R) ∧ 0 ≤ n ∧ n ≤ 4294967296 ∧ (k < N → n + room k ≤ 4294967296) ∧ w2 = wr) (fun _ _ i _ => N - (intOf i).toNat)
    case atStart => exact ⟨0, 0, by omega, by simp, by simp, by rfl, HR.out.symm, by omega, by omega, fun _ => by decide, rfl⟩
    case round =>
      obtain ⟨k, n, hk, rfl, rfl, rfl, hf, hn0, hn1, hn2, rfl⟩ := hrel
      by_cases hlt : k < N
      · have hkl : k < ps.length := by have := HN.out; omega
        have hcell := HC.out k hkl
        have hnm := fun W => rfnum_any ps[k] W (by have := HSM.out ps[k] (List.getElem_mem hkl); have := HL.out; omega)
        have hge := fun v h => num_ge (C := 8589934592) (by decide) (s := ps[k]'hkl) (v := v) h
        have hf1 := hf.out
        by_cases hlast : k + 1 = N
        · rw [fp_one (by have := HN.out; omega)] at hf1
          generalize numG 8589934592 ps[k] = O at hnm hge hf1
          generalize bs ps[k] = u at hcell hnm
          have HNM := Lib.hid hnm; clear hnm hf
          have hw1 : IntKind.i64.wrap ((N : Int) - 1) = (k : Int) := by rw [IntWalk.i64_in _ (by omega)]; omega
          have HLAST := Lib.hid hlast; clear hlast
          cases O with
          | none =>
            have HF := Lib.hid (show none = R from hf1); clear hf1 hge
            go_wp2_with (first
              | (go_at_call 52; refine (HNM.out _).mono ?_; rintro e w3 ⟨rfl, hw3⟩; subst hw3)
              | fail)
            go_ret2
            exact ⟨by rw [← HF.out]; rfl, HB.out⟩
          | some m =>
            have hm := hge m rfl
            have HF := Lib.hid (show (if room k ≤ m then none else some (n + m)) = R from hf1); clear hf1 hge
            have hk4 : k = 0 ∨ k = 1 ∨ k = 2 ∨ k = 3 := by have := HLAST.out; omega
            have hn2' := hn2 hlt
            have hws : IntKind.i64.wrap (n + m) = n + m := IntWalk.i64_in _ (by omega)
            by_cases hrm : room k ≤ m
            · rw [if_pos hrm] at HF
              clear hn2 hn2'
              rcases hk4 with rfl | rfl | rfl | rfl
              all_goals
                simp only [room] at hrm ⊢
                try simp only [Nat.add_zero] at hcell
                go_wp2_with (first
                  | (go_at_call 52; refine (HNM.out _).mono ?_; rintro e w3 ⟨rfl, hw3⟩; subst hw3)
                  | fail)
                go_ret2
                exact ⟨by rw [← HF.out]; rfl, HB.out⟩
            · rw [if_neg hrm] at HF
              have hs2 : n + m ≤ 4294967296 := by omega
              have HR2 := Lib.hid (show fpGo 8589934592 (k + 1) (n + m) (ps.drop (k + 1)) = R by rw [List.drop_of_length_le (by have := HN.out; have := HLAST.out; omega)]; exact HF.out)
              clear hn2 hn2'
              rcases hk4 with rfl | rfl | rfl | rfl
              all_goals
                simp only [room] at hrm ⊢
                try simp only [Nat.add_zero] at hcell
                go_wp2_with (first
                  | (go_at_call 52; refine (HNM.out _).mono ?_; rintro e w3 ⟨rfl, hw3⟩; subst hw3)
                  | fail)
                go_roundw
                case rel => exact ⟨_, n + m, (by have := HLAST.out; omega), by rfl, by rfl, by rfl, HR2.out, by omega, by omega, fun h => absurd h (by have := HLAST.out; omega), by trivial⟩
                case measure => simp [intOf]; omega
        · rw [fp_more (by have := HN.out; omega)] at hf1
          generalize numG 8589934592 ps[k] = O at hnm hge hf1
          generalize bs ps[k] = u at hcell hnm
          have HNM := Lib.hid hnm; clear hnm hf
          have hw1 : IntKind.i64.wrap ((N : Int) - 1) = (N : Int) - 1 := by rw [IntWalk.i64_in _ (by omega)]
          have hnl : ¬ (k : Int) = (N : Int) - 1 := by omega
          have hnl2 : (k : Int) < (N : Int) - 1 := by omega
          have hnl3 : ((k : Int) == (N : Int) - 1) = false := by simpa using hnl
          cases O with
          | none =>
            have HF := Lib.hid (show none = R from hf1); clear hf1 hge
            go_wp2_with (first
              | (go_at_call 52; refine (HNM.out _).mono ?_; rintro e w3 ⟨rfl, hw3⟩; subst hw3)
              | fail)
            go_ret2
            exact ⟨by rw [← HF.out]; rfl, HB.out⟩
          | some m =>
            have hm := hge m rfl
            have HF := Lib.hid (show (if 255 < m then none else fpGo 8589934592 (k + 1) (n + m * room (k + 1)) (ps.drop (k + 1))) = R from hf1); clear hf1 hge
            by_cases hm255 : 255 < m
            · rw [if_pos hm255] at HF
              go_wp2_with (first
                | (go_at_call 52; refine (HNM.out _).mono ?_; rintro e w3 ⟨rfl, hw3⟩; subst hw3)
                | fail)
              go_ret2
              exact ⟨by rw [← HF.out]; rfl, HB.out⟩
            · rw [if_neg hm255] at HF
              have hk4 : k = 0 ∨ k = 1 ∨ k = 2 := by omega
              have hn2' := hn2 hlt
              clear hn2
              rcases hk4 with rfl | rfl | rfl
              · simp only [room] at HF hn2' ⊢
                try simp only [Nat.add_zero] at hcell
                have hws1 : IntKind.i64.wrap (m * 16777216) = m * 16777216 := IntWalk.i64_in _ (by omega)
                have hws : IntKind.i64.wrap (n + m * 16777216) = n + m * 16777216 := IntWalk.i64_in _ (by omega)
                have hn3 : n + m * 16777216 ≤ 4294967296 ∧ (1 < N → n + m * 16777216 + room (1) ≤ 4294967296) := ⟨by omega, fun _ => by show _ + _ + 16777216 ≤ _; omega⟩
                go_wp2_with (first
                  | (go_at_call 52; refine (HNM.out _).mono ?_; rintro e w3 ⟨rfl, hw3⟩; subst hw3)
                  | fail)
                go_roundw
                case rel => exact ⟨1, n + m * 16777216, by omega, by rfl, by rfl, by rfl, HF.out, by omega, hn3.1, hn3.2, by trivial⟩
                case measure => simp [intOf]; omega
              · simp only [room] at HF hn2' ⊢
                try simp only [Nat.add_zero] at hcell
                have hws1 : IntKind.i64.wrap (m * 65536) = m * 65536 := IntWalk.i64_in _ (by omega)
                have hws : IntKind.i64.wrap (n + m * 65536) = n + m * 65536 := IntWalk.i64_in _ (by omega)
                have hn3 : n + m * 65536 ≤ 4294967296 ∧ (2 < N → n + m * 65536 + room (2) ≤ 4294967296) := ⟨by omega, fun _ => by show _ + _ + 65536 ≤ _; omega⟩
                go_wp2_with (first
                  | (go_at_call 52; refine (HNM.out _).mono ?_; rintro e w3 ⟨rfl, hw3⟩; subst hw3)
                  | fail)
                go_roundw
                case rel => exact ⟨2, n + m * 65536, by omega, by rfl, by rfl, by rfl, HF.out, by omega, hn3.1, hn3.2, by trivial⟩
                case measure => simp [intOf]; omega
              · simp only [room] at HF hn2' ⊢
                try simp only [Nat.add_zero] at hcell
                have hws1 : IntKind.i64.wrap (m * 256) = m * 256 := IntWalk.i64_in _ (by omega)
                have hws : IntKind.i64.wrap (n + m * 256) = n + m * 256 := IntWalk.i64_in _ (by omega)
                have hn3 : n + m * 256 ≤ 4294967296 ∧ (3 < N → n + m * 256 + room (3) ≤ 4294967296) := ⟨by omega, fun _ => by show _ + _ + 256 ≤ _; omega⟩
                go_wp2_with (first
                  | (go_at_call 52; refine (HNM.out _).mono ?_; rintro e w3 ⟨rfl, hw3⟩; subst hw3)
                  | fail)
                go_roundw
                case rel => exact ⟨3, n + m * 256, by omega, by rfl, by rfl, by rfl, HF.out, by omega, hn3.1, hn3.2, by trivial⟩
                case measure => simp [intOf]; omega
      · obtain rfl : k = N := by omega
        have hf1 := hf.out
        rw [List.drop_of_length_le (by have := HN.out; omega)] at hf1
        have hfs : some n = R := hf1
        have hnr := HRR.out n hfs.symm
        have hwr : IntKind.u32.wrap n = n := by rw [IntKind.wrap_u32]; omega
        have HF := Lib.hid hfs; clear hf hf1 hfs
        clear hn2
        go_wp2_with fail
        go_ret2
        exact ⟨by rw [← HF.out]; rfl, HB.out⟩
end Go.Proofs.YtgfklkfbccknoaaGreatDoor
