/- PctA PctB HstA PctC: joined. -/
import Derived.Test.YtgfklkfbccknoaaGreatDoorProg
import Derived.Test.YtgfklkfbccknoaaGreatDoorGBase
import Derived.Test.YtgfklkfbccknoaaGreatDoorGSlic
import Derived.Test.YtgfklkfbccknoaaGreatDoorShelf
/- Which bytes are encoded: percent.among, percent.In; the reference's among, In. -/
namespace Go.Proofs.YtgfklkfbccknoaaGreatDoor
open Go.RowKit
set_option maxRecDepth 10000

/-- is a byte one of a text's -/
def amF (l : Bytes) (c : Int) : Bool := l.any fun x => b2 x == c
def moreF (set : Int) : Bytes :=
  if set = 1 then [32, 34, 60, 62, 96] else if set = 2 then [32, 34, 35, 60, 62] else if set = 3 then [32, 34, 35, 60, 62, 39] else if set = 4 then [32, 34, 35, 60, 62, 63, 94, 96, 123, 125]
  else if set = 5 then [32, 34, 35, 60, 62, 63, 94, 96, 123, 125, 47, 58, 59, 61, 64, 91, 92, 93, 124]
  else if set = 6 then [32, 34, 35, 60, 62, 63, 94, 96, 123, 125, 47, 58, 59, 61, 64, 91, 92, 93, 124, 36, 37, 38, 43, 44] else []
def ctlF (c : Int) : Bool := decide (c < 32 ∨ 126 < c)
def inF (set c : Int) : Bool := if set < 0 ∨ 6 < set then false else ctlF c || amF (moreF set) c
theorem am_at {l : Bytes} {c : Int} (h : ∀ k (hk : k < l.length), b2 l[k] ≠ c) : amF l c = false := by
  unfold amF
  rw [List.any_eq_false]
  intro x hx
  obtain ⟨k, hk, rfl⟩ := List.getElem_of_mem hx
  simpa using h k hk
theorem am_yes {l : Bytes} {c : Int} {k : Nat} (hk : k < l.length) (h : b2 l[k] = c) : amF l c = true := by
  unfold amF
  rw [List.any_eq_true]
  exact ⟨l[k], List.getElem_mem hk, by simpa using h⟩
set_option maxHeartbeats 2000000 in
theorem ramong_any (l : Bytes) (c : Int) (w : World) (hl : l.length ≤ 1000000) : Calls Tryz.prog 75 #[.string (bs l), .int .u8 c] w fun e w' => e = .returned (.bool (amF l c)) ∧ w' = w := by
  obtain ⟨s, hs⟩ : ∃ s, s = bs l := ⟨_, rfl⟩
  have hsz : s.size = l.length := by rw [hs, bs_size]
  have hby : ∀ k (hk : k < s.size) (hk2 : k < l.length), ((s[k]'hk).toNat : Int) = b2 l[k] := fun k hk hk2 => str_at hs hk hk2
  rw [← hs]
  clear hs
  obtain ⟨N, hN⟩ : ∃ N, N = s.size := ⟨_, rfl⟩
  have hsN : s.size = N := hN.symm
  have hNm : N ≤ 1000000 := by omega
  have HBY := Lib.hid hby; clear hby
  have HSZ := Lib.hid hsz; clear hsz hl hN
  go_enter Tryz.func75, Tryz.ntmps75
  go_wp2_with fail
  go_loopw [5] (fun iv wr => ∃ k : Nat, k ≤ N ∧ iv = .int .i64 k ∧ Hid (∀ j (hj : j < l.length), j < k → b2 l[j] ≠ c) ∧ w = wr) (fun i _ => N - (intOf i).toNat)
  case atStart => exact ⟨0, by omega, by simp, fun j _ h => absurd h (Nat.not_lt_zero j), rfl⟩
  case round =>
    obtain ⟨k, hk, rfl, hnb, rfl⟩ := hrel
    by_cases hlt : k < N
    · have hku : k < s.size := by omega
      have hkl : k < l.length := by have := HSZ.out; omega
      have hx := HBY.out k hku hkl
      by_cases hc : b2 l[k] = c
      · have HF := Lib.hid (am_yes hkl hc)
        rw [hc] at hx
        clear hc hnb
        go_wp2_with fail
        go_ret
        exact ⟨by rw [HF.out]; rfl, rfl⟩
      · have HNB := Lib.hid (show ∀ j (hj : j < l.length), j < k + 1 → b2 l[j] ≠ c from fun j hj h => by
          rcases Nat.lt_or_ge j k with h1 | h1
          · exact hnb.out j hj h1
          · obtain rfl : j = k := by omega
            exact hc)
        generalize b2 l[k] = x at hx hc
        clear hnb
        go_wp2_with fail
        go_roundw
        case rel => exact ⟨k + 1, by omega, by simp, HNB.out, by trivial⟩
        case measure => simp [intOf]; omega
    · obtain rfl : k = N := by omega
      have hall : amF l c = false := am_at fun j hj => hnb.out j hj (by have := HSZ.out; omega)
      have HA := Lib.hid hall
      clear hall hnb
      go_wp2_with fail
      go_ret
      exact ⟨by rw [HA.out]; rfl, rfl⟩
theorem index_am : ∀ (l : Bytes) (x : UInt8), (0 ≤ Lib.indexByte l x) ↔ amF l (b2 x) = true
  | [], x => by simp [Lib.indexByte, amF]
  | y :: l, x => by
    have ih := index_am l x
    have hxy : (b2 y = b2 x) ↔ y = x := by
      constructor
      · intro h
        apply UInt8.toNat_inj.mp
        have h1 : (y.toNat : Int) = x.toNat := h
        omega
      · rintro rfl; rfl
    unfold Lib.indexByte
    by_cases h : y = x
    · subst h
      simp [amF]
    · have h2 : (y == x) = false := by simpa using h
      have h3 : amF (y :: l) (b2 x) = amF l (b2 x) := by
        have : (b2 y == b2 x) = false := by simpa using fun e => h (hxy.mp e)
        simp [amF, this]
      rw [h2, h3]
      simp only [Bool.false_eq_true, if_false]
      by_cases h1 : Lib.indexByte l x = -1
      · rw [← ih, h1]; simp
      · have h4 : (Lib.indexByte l x == -1) = false := by simpa using h1
        rw [h4]
        simp only [Bool.false_eq_true, if_false]
        rw [← ih]
        have : -1 ≤ Lib.indexByte l x := by
          clear ih h1 h4 h3 h2 h hxy
          induction l with
          | nil => simp [Lib.indexByte]
          | cons z l ih =>
            unfold Lib.indexByte
            split
            · omega
            · split
              · omega
              · omega
        omega
theorem among_any (l : Bytes) (c : Int) (h0 : 0 ≤ c) (h1 : c < 256) (w : World) : Calls Tryz.prog 56 #[.string (bs l), .int .u8 c] w fun e w' => e = .returned (.bool (amF l c)) ∧ w' = w := by
  obtain ⟨x, rfl⟩ : ∃ x : UInt8, c = b2 x := ⟨UInt8.ofNat c.toNat, by simp [b2]; omega⟩
  have hib := fun W => Any.strings_IndexByte Tryz.laysIB (bs l) (b2 x) W
  rw [show (bs l).data.toList = l from ls_bs l, show (b2 x).toNat.toUInt8 = x by simp [b2]] at hib
  have hib2 : ∀ W, Calls Tryz.prog 88 #[.string (bs l), .int .u8 (b2 x)] W fun e w' => e = .returned (.int .i64 (Lib.indexByte l x)) ∧ w' = W := hib
  have hi := index_am l x
  generalize Lib.indexByte l x = I at hib2 hi
  generalize amF l (b2 x) = a at hi ⊢
  have HI := Lib.hid hib2; clear hib2 hib h0 h1
  have HA := Lib.hid hi; clear hi
  go_enter Tryz.func56, Tryz.ntmps56
  go_wp2_with (first | (go_at_call 88; refine (HI.out _).mono ?_; rintro e w2 ⟨rfl, hw2⟩; subst hw2) | fail)
  all_goals
    go_ret
    refine ⟨ret1_bool ?_, rfl⟩
    have := HA.out
    cases a <;> simp_all
end Go.Proofs.YtgfklkfbccknoaaGreatDoor

/- percent.In, ref03.In. -/
namespace Go.Proofs.YtgfklkfbccknoaaGreatDoor
open Go.RowKit
set_option maxRecDepth 10000

set_option maxHeartbeats 4000000 in
theorem prin_any (set c : Int) (w : World) : Calls Tryz.prog 46 #[.int .i64 set, .int .u8 c] w fun e w' => e = .returned (.bool (inF set c)) ∧ w' = w := by
  have hAm : ∀ (l : Bytes) (s : ByteArray) (W : World), s = bs l → l.length ≤ 1000000 → Calls Tryz.prog 75 #[.string s, .int .u8 c] W fun e w' => e = .returned (.bool (amF l c)) ∧ w' = W := by
    rintro l s W rfl h
    exact ramong_any l c W h
  have HAm := Lib.hid hAm; clear hAm
  by_cases h0 : set < 0
  · have hF : inF set c = false := by simp [inF, h0]
    rw [hF]
    go_enter Tryz.func46, Tryz.ntmps46
    go_wp2_with fail
    go_ret
    try exact ⟨rfl, rfl⟩
  by_cases h1 : 6 < set
  · have hF : inF set c = false := by simp [inF, h1]
    rw [hF]
    go_enter Tryz.func46, Tryz.ntmps46
    go_wp2_with fail
    go_ret
    try exact ⟨rfl, rfl⟩
  by_cases h2 : c < 32
  · have hF : inF set c = true := by simp [inF, h0, h1, ctlF, h2]
    rw [hF]
    go_enter Tryz.func46, Tryz.ntmps46
    go_wp2_with fail
    go_ret
    try exact ⟨rfl, rfl⟩
  by_cases h3 : 126 < c
  · have hF : inF set c = true := by simp [inF, h0, h1, ctlF, h3]
    rw [hF]
    go_enter Tryz.func46, Tryz.ntmps46
    go_wp2_with fail
    go_ret
    try exact ⟨rfl, rfl⟩
  have hF : inF set c = amF (moreF set) c := by simp [inF, h0, h1, ctlF, h2, h3]
  rw [hF]
  have hmo : ∀ (l : Bytes), moreF set = l → Hid (amF (moreF set) c = amF l c) := fun l h => Lib.hid (by rw [h])
  obtain ⟨A, hA⟩ : ∃ A, A = amF (moreF set) c := ⟨_, rfl⟩
  rw [← hA]
  have HAm2 : Hid (∀ (s : ByteArray) (W : World), s = bs (moreF set) → Calls Tryz.prog 75 #[.string s, .int .u8 c] W fun e w' => e = .returned (.bool A) ∧ w' = W) := Lib.hid (by
    intro s W h
    rw [hA]
    exact HAm.out _ _ W h (by unfold moreF; split <;> (try split) <;> (try split) <;> (try split) <;> (try split) <;> (try split) <;> decide))
  clear hA hF hmo HAm
  obtain h | h | h | h | h | h | h : set = 0 ∨ set = 1 ∨ set = 2 ∨ set = 3 ∨ set = 4 ∨ set = 5 ∨ set = 6 := by omega
  all_goals
    subst h
    clear h0 h1
    go_enter Tryz.func46, Tryz.ntmps46
    go_wp2_with (first | (go_at_call 75; refine (HAm2.out _ _ rfl).mono ?_; rintro e w2 ⟨rfl, hw2⟩; subst hw2) | fail)
    go_ret
    try exact ⟨rfl, rfl⟩
theorem am_app (l m : Bytes) (c : Int) : amF (l ++ m) c = (amF l c || amF m c) := by simp [amF]
theorem in_set (c : Int) :
    inF 0 c = ctlF c ∧ inF 2 c = (amF [32, 34, 35, 60, 62] c || ctlF c) ∧
    inF 4 c = (amF [63, 94, 96, 123, 125] c || (amF [32, 34, 35, 60, 62] c || ctlF c)) ∧
    inF 5 c = (amF [47, 58, 59, 61, 64, 91, 92, 93, 124] c || (amF [63, 94, 96, 123, 125] c || (amF [32, 34, 35, 60, 62] c || ctlF c))) ∧
    inF 6 c = (amF [36, 37, 38, 43, 44] c || (amF [47, 58, 59, 61, 64, 91, 92, 93, 124] c || (amF [63, 94, 96, 123, 125] c || (amF [32, 34, 35, 60, 62] c || ctlF c)))) ∧
    inF 3 c = (decide (c = 39) || inF 2 c) ∧ inF 1 c = (amF [32, 34, 60, 62, 96] c || inF 0 c) := by
  have e4 : moreF 4 = [32, 34, 35, 60, 62] ++ [63, 94, 96, 123, 125] := rfl
  have e5 : moreF 5 = ([32, 34, 35, 60, 62] ++ [63, 94, 96, 123, 125]) ++ [47, 58, 59, 61, 64, 91, 92, 93, 124] := rfl
  have e6 : moreF 6 = (([32, 34, 35, 60, 62] ++ [63, 94, 96, 123, 125]) ++ [47, 58, 59, 61, 64, 91, 92, 93, 124]) ++ [36, 37, 38, 43, 44] := rfl
  have e3 : moreF 3 = [32, 34, 35, 60, 62] ++ [39] := rfl
  have e39 : amF [39] c = decide (c = 39) := by
    have : (b2 39 == c) = decide (c = 39) := by
      by_cases h : c = 39
      · subst h; rfl
      · have : (b2 39 == c) = false := by simpa [b2] using fun e => h e.symm
        simp [this, h]
    simp [amF, this]
  refine ⟨?_, ?_, ?_, ?_, ?_, ?_, ?_⟩
  · simp [inF, moreF, amF]
  · show (if (2 : Int) < 0 ∨ 6 < (2 : Int) then false else ctlF c || amF [32, 34, 35, 60, 62] c) = _
    rw [if_neg (by omega), Bool.or_comm]
  · show (if (4 : Int) < 0 ∨ 6 < (4 : Int) then false else ctlF c || amF (moreF 4) c) = _
    rw [if_neg (by omega), e4, am_app]
    generalize ctlF c = a, amF [32, 34, 35, 60, 62] c = b, amF [63, 94, 96, 123, 125] c = d
    revert a b d; decide
  · show (if (5 : Int) < 0 ∨ 6 < (5 : Int) then false else ctlF c || amF (moreF 5) c) = _
    rw [if_neg (by omega), e5, am_app, am_app]
    generalize ctlF c = a, amF [32, 34, 35, 60, 62] c = b, amF [63, 94, 96, 123, 125] c = d, amF [47, 58, 59, 61, 64, 91, 92, 93, 124] c = e
    revert a b d e; decide
  · show (if (6 : Int) < 0 ∨ 6 < (6 : Int) then false else ctlF c || amF (moreF 6) c) = _
    rw [if_neg (by omega), e6, am_app, am_app, am_app]
    generalize ctlF c = a, amF [32, 34, 35, 60, 62] c = b, amF [63, 94, 96, 123, 125] c = d, amF [47, 58, 59, 61, 64, 91, 92, 93, 124] c = e, amF [36, 37, 38, 43, 44] c = f
    revert a b d e f; decide
  · show (if (3 : Int) < 0 ∨ 6 < (3 : Int) then false else ctlF c || amF (moreF 3) c) = (_ || if (2 : Int) < 0 ∨ 6 < (2 : Int) then false else ctlF c || amF [32, 34, 35, 60, 62] c)
    rw [if_neg (by omega), if_neg (by omega), e3, am_app, e39]
    generalize ctlF c = a, amF [32, 34, 35, 60, 62] c = b, decide (c = 39) = d
    revert a b d; decide
  · show (if (1 : Int) < 0 ∨ 6 < (1 : Int) then false else ctlF c || amF [32, 34, 60, 62, 96] c) = (_ || if (0 : Int) < 0 ∨ 6 < (0 : Int) then false else ctlF c || amF [] c)
    rw [if_neg (by omega), if_neg (by omega)]
    have : amF [] c = false := rfl
    rw [this]
    generalize ctlF c = a, amF [32, 34, 60, 62, 96] c = b
    revert a b; decide
set_option maxHeartbeats 4000000 in
theorem in_low (set c : Int) (h0 : 0 ≤ c) (h1 : c < 256) (hs : set = 0 ∨ set = 2 ∨ set = 4 ∨ set = 5 ∨ set = 6) (w : World) : Calls Tryz.prog 35 #[.int .i64 set, .int .u8 c] w fun e w' => e = .returned (.bool (inF set c)) ∧ w' = w := by
  obtain ⟨i0, i2, i4, i5, i6, -, -⟩ := in_set c
  obtain ⟨A2, hA2⟩ : ∃ A, A = amF [32, 34, 35, 60, 62] c := ⟨_, rfl⟩
  obtain ⟨A4, hA4⟩ : ∃ A, A = amF [63, 94, 96, 123, 125] c := ⟨_, rfl⟩
  obtain ⟨A5, hA5⟩ : ∃ A, A = amF [47, 58, 59, 61, 64, 91, 92, 93, 124] c := ⟨_, rfl⟩
  obtain ⟨A6, hA6⟩ : ∃ A, A = amF [36, 37, 38, 43, 44] c := ⟨_, rfl⟩
  rw [← hA2] at i2; rw [← hA2, ← hA4] at i4; rw [← hA2, ← hA4, ← hA5] at i5; rw [← hA2, ← hA4, ← hA5, ← hA6] at i6
  have m2 : Hid (∀ W, Calls Tryz.prog 56 #[.string { data := #[32, 34, 35, 60, 62] }, .int .u8 c] W fun e w' => e = .returned (.bool A2) ∧ w' = W) := Lib.hid (fun W => by rw [hA2]; exact among_any [32, 34, 35, 60, 62] c h0 h1 W)
  have m4 : Hid (∀ W, Calls Tryz.prog 56 #[.string { data := #[63, 94, 96, 123, 125] }, .int .u8 c] W fun e w' => e = .returned (.bool A4) ∧ w' = W) := Lib.hid (fun W => by rw [hA4]; exact among_any [63, 94, 96, 123, 125] c h0 h1 W)
  have m5 : Hid (∀ W, Calls Tryz.prog 56 #[.string { data := #[47, 58, 59, 61, 64, 91, 92, 93, 124] }, .int .u8 c] W fun e w' => e = .returned (.bool A5) ∧ w' = W) := Lib.hid (fun W => by rw [hA5]; exact among_any [47, 58, 59, 61, 64, 91, 92, 93, 124] c h0 h1 W)
  have m6 : Hid (∀ W, Calls Tryz.prog 56 #[.string { data := #[36, 37, 38, 43, 44] }, .int .u8 c] W fun e w' => e = .returned (.bool A6) ∧ w' = W) := Lib.hid (fun W => by rw [hA6]; exact among_any [36, 37, 38, 43, 44] c h0 h1 W)
  clear hA2 hA4 hA5 hA6
  have hct : (c < 32 ∧ ctlF c = true) ∨ (¬ c < 32 ∧ 126 < c ∧ ctlF c = true) ∨ (¬ c < 32 ∧ ¬ 126 < c ∧ ctlF c = false) := by
    unfold ctlF
    by_cases a : c < 32
    · simp [a]
    · by_cases b : 126 < c
      · simp [a, b]
      · simp [a, b]
  obtain ⟨C, hC⟩ : ∃ C, C = ctlF c := ⟨_, rfl⟩
  rw [← hC] at i0 i2 i4 i5 i6 hct
  clear hC
  obtain ⟨F, hF⟩ : ∃ F, F = inF set c := ⟨_, rfl⟩
  rw [← hF]
  obtain h | h | h | h | h := hs
  all_goals
    subst h
    first | rw [i0] at hF | rw [i2] at hF | rw [i4] at hF | rw [i5] at hF | rw [i6] at hF
    clear i0 i2 i4 i5 i6
    obtain ⟨hc, rfl⟩ | ⟨hc, hc2, rfl⟩ | ⟨hc, hc2, rfl⟩ := hct
    all_goals
      have HF := Lib.hid hF; clear hF
      go_enter Tryz.func35, Tryz.ntmps35
      go_wp2_with (first | (go_at_call 56; (with_reducible first | refine (m6.out _).mono ?_ | refine (m5.out _).mono ?_ | refine (m4.out _).mono ?_ | refine (m2.out _).mono ?_); rintro e w2 ⟨rfl, hw2⟩; subst hw2) | fail)
      all_goals
        go_ret
        refine ⟨ret1_bool ?_, rfl⟩
        have := HF.out
        simp_all
end Go.Proofs.YtgfklkfbccknoaaGreatDoor

/- host.Bad. -/
namespace Go.Proofs.YtgfklkfbccknoaaGreatDoor
open Go.RowKit
set_option maxRecDepth 10000

def badF (c : Int) : Bool := decide (c = 0 ∨ c = 9 ∨ c = 10 ∨ c = 13 ∨ c = 32 ∨ c = 35 ∨ c = 47 ∨ c = 58 ∨ c = 60 ∨ c = 62 ∨ c = 63 ∨ c = 64 ∨ c = 91 ∨ c = 92 ∨ c = 93 ∨ c = 94 ∨ c = 124)
theorem bad_any (c : Int) (w : World) : Calls Tryz.prog 15 #[.int .u8 c] w fun e w' => e = .returned (.bool (badF c)) ∧ w' = w := by
  go_enter Tryz.func15, Tryz.ntmps15
  go_wp2_with fail
  all_goals
    go_ret
    refine ⟨ret1_bool ?_, rfl⟩
    unfold badF
    first
      | (rw [eq_comm, decide_eq_true_eq]; omega)
      | (rw [eq_comm, decide_eq_false_iff_not]; simp_all; done)
      | (simp_all; done)
def badL : Bytes := [0, 9, 10, 13, 32, 35, 47, 58, 60, 62, 63, 64, 91, 92, 93, 94, 124]
theorem bad_am (x : UInt8) : amF badL (b2 x) = badF (b2 x) := by
  have h : ∀ k : Fin 256, amF badL (b2 (UInt8.ofNat k.val)) = badF (b2 (UInt8.ofNat k.val)) := by decide +kernel
  have h2 := h ⟨x.toNat, x.toNat_lt⟩
  simpa using h2
theorem badL_at : ∀ k : Fin 17, (((⟨#[0, 9, 10, 13, 32, 35, 47, 58, 60, 62, 63, 64, 91, 92, 93, 94, 124]⟩ : ByteArray)[k.val]'(by have := k.isLt; show k.val < 17; omega)).toNat : Int) = b2 (badL[k.val]'(by have := k.isLt; show k.val < 17; omega)) := by decide +kernel
set_option maxHeartbeats 2000000 in
theorem rBad_am (c : Int) (w : World) : Calls Tryz.prog 16 #[.int .u8 c] w fun e w' => e = .returned (.bool (amF badL c)) ∧ w' = w := by
  have hlen : badL.length = 17 := rfl
  go_enter Tryz.func16, Tryz.ntmps16
  go_wp2_with fail
  go_loopw [4] (fun iv wr => ∃ k : Nat, k ≤ 17 ∧ iv = .int .i64 k ∧ Hid (∀ j (hj : j < badL.length), j < k → b2 badL[j] ≠ c) ∧ w = wr) (fun i _ => 17 - (intOf i).toNat)
  case atStart => exact ⟨0, by omega, by simp, fun j _ h => absurd h (Nat.not_lt_zero j), rfl⟩
  case round =>
    obtain ⟨k, hk, rfl, hnb, rfl⟩ := hrel
    by_cases hlt : k < 17
    · have hkl : k < badL.length := hlt
      have hx : (((⟨#[0, 9, 10, 13, 32, 35, 47, 58, 60, 62, 63, 64, 91, 92, 93, 94, 124]⟩ : ByteArray)[k]'(show k < 17 from hlt)).toNat : Int) = b2 (badL[k]'hkl) := badL_at ⟨k, hlt⟩
      by_cases hc : b2 (badL[k]'hkl) = c
      · have HF := Lib.hid (am_yes (l := badL) hkl hc)
        rw [hc] at hx
        clear hc hnb
        go_wp2_with fail
        go_ret
        exact ⟨by rw [HF.out]; rfl, rfl⟩
      · have HNB := Lib.hid (show ∀ j (hj : j < badL.length), j < k + 1 → b2 badL[j] ≠ c from fun j hj h => by
          rcases Nat.lt_or_ge j k with h1 | h1
          · exact hnb.out j hj h1
          · obtain rfl : j = k := by omega
            exact hc)
        generalize b2 (badL[k]'hkl) = x at hx hc
        clear hnb
        go_wp2_with fail
        go_roundw
        case rel => exact ⟨k + 1, by omega, by simp, HNB.out, by trivial⟩
        case measure => simp [intOf]; omega
    · obtain rfl : k = 17 := by omega
      have hall : amF badL c = false := am_at fun j hj => hnb.out j hj hj
      have HA := Lib.hid hall
      clear hall hnb
      go_wp2_with fail
      go_ret
      exact ⟨by rw [HA.out]; rfl, rfl⟩
end Go.Proofs.YtgfklkfbccknoaaGreatDoor

/- percent.In, any set. -/
namespace Go.Proofs.YtgfklkfbccknoaaGreatDoor
open Go.RowKit
set_option maxRecDepth 10000

set_option maxHeartbeats 4000000 in
theorem pin_any (set c : Int) (h0 : 0 ≤ c) (h1 : c < 256) (w : World) : Calls Tryz.prog 35 #[.int .i64 set, .int .u8 c] w fun e w' => e = .returned (.bool (inF set c)) ∧ w' = w := by
  obtain ⟨-, -, -, -, -, i3, i1⟩ := in_set c
  by_cases hs : set = 0 ∨ set = 2 ∨ set = 4 ∨ set = 5 ∨ set = 6
  · exact in_low set c h0 h1 hs w
  by_cases h3 : set = 3
  · subst h3
    clear hs i1
    have m2 : Hid (∀ W, Calls Tryz.prog 35 #[.int .i64 2, .int .u8 c] W fun e w' => e = .returned (.bool (inF 2 c)) ∧ w' = W) := Lib.hid (fun W => in_low 2 c h0 h1 (by simp) W)
    generalize inF 3 c = F at i3 ⊢
    generalize inF 2 c = G at i3 m2
    by_cases hc : c = 39
    · subst hc
      simp at i3
      subst i3
      go_enter Tryz.func35, Tryz.ntmps35
      go_wp2_with (first | (go_at_call 35; (with_reducible refine (m2.out _).mono ?_); rintro e w2 ⟨rfl, hw2⟩; subst hw2) | fail)
      all_goals
        go_ret
        try exact ⟨rfl, rfl⟩
    · have hd : decide (c = 39) = false := by simpa using hc
      rw [hd, Bool.false_or] at i3
      subst i3
      clear hd
      go_enter Tryz.func35, Tryz.ntmps35
      go_wp2_with (first | (go_at_call 35; (with_reducible refine (m2.out _).mono ?_); rintro e w2 ⟨rfl, hw2⟩; subst hw2) | fail)
      all_goals
        go_ret
        first
        | exact ⟨rfl, rfl⟩
        | (refine ⟨ret1_bool ?_, rfl⟩; simp [hc])
  by_cases h3 : set = 1
  · subst h3
    clear hs i3
    have m2 : Hid (∀ W, Calls Tryz.prog 35 #[.int .i64 0, .int .u8 c] W fun e w' => e = .returned (.bool (inF 0 c)) ∧ w' = W) := Lib.hid (fun W => in_low 0 c h0 h1 (by simp) W)
    obtain ⟨A, hA⟩ : ∃ A, A = amF [32, 34, 60, 62, 96] c := ⟨_, rfl⟩
    rw [← hA] at i1
    have m1 : Hid (∀ W, Calls Tryz.prog 56 #[.string { data := #[32, 34, 60, 62, 96] }, .int .u8 c] W fun e w' => e = .returned (.bool A) ∧ w' = W) := Lib.hid (fun W => by rw [hA]; exact among_any [32, 34, 60, 62, 96] c h0 h1 W)
    generalize inF 1 c = F at i1 ⊢
    generalize inF 0 c = G at i1 m2
    clear hA
    cases A
    · simp at i1
      subst i1
      go_enter Tryz.func35, Tryz.ntmps35
      go_wp2_with (first | (go_at_call 56; (with_reducible refine (m1.out _).mono ?_); rintro e w2 ⟨rfl, hw2⟩; subst hw2) | (go_at_call 35; (with_reducible refine (m2.out _).mono ?_); rintro e w2 ⟨rfl, hw2⟩; subst hw2) | fail)
      all_goals
        go_ret
        try exact ⟨rfl, rfl⟩
    · simp at i1
      subst i1
      go_enter Tryz.func35, Tryz.ntmps35
      go_wp2_with (first | (go_at_call 56; (with_reducible refine (m1.out _).mono ?_); rintro e w2 ⟨rfl, hw2⟩; subst hw2) | (go_at_call 35; (with_reducible refine (m2.out _).mono ?_); rintro e w2 ⟨rfl, hw2⟩; subst hw2) | fail)
      all_goals
        go_ret
        try exact ⟨rfl, rfl⟩
  have hF : inF set c = false := by
    unfold inF
    rw [if_pos (by omega)]
  rw [hF]
  have n6 : ¬ set = 6 := by omega
  have n5 : ¬ set = 5 := by omega
  have n4 : ¬ set = 4 := by omega
  have n2 : ¬ set = 2 := by omega
  have n0 : ¬ set = 0 := by omega
  have n3 : ¬ set = 3 := by omega
  have n1 : ¬ set = 1 := by omega
  clear hs hF i3 i1
  go_enter Tryz.func35, Tryz.ntmps35
  go_wp2_with fail
  all_goals
    go_ret
    try exact ⟨rfl, rfl⟩
end Go.Proofs.YtgfklkfbccknoaaGreatDoor
