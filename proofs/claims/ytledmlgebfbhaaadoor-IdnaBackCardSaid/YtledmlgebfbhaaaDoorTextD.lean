/- The reference's Next: the sign that stands first. -/
import Derived.Test.YtledmlgebfbhaaaDoorTextA
import Derived.Deep.QuietTactic
import Derived.BigQuiet
namespace Go.Proofs.YtledmlgebfbhaaaDoor
open Go.RowKit


/-- m bytes more of a sign of which k were read, which are worth c; the next one lies from lo to hi -/
def nextGo : Bytes → Nat → Nat → Int → Int → Int → Int × Int × Bool
  | _, 0, k, c, _, _ => (c, k, true)
  | [], _ + 1, k, _, _, _ => (0xfffd, k, false)
  | x :: r, m + 1, k, c, lo, hi => if b2 x < lo ∨ hi < b2 x then (0xfffd, k, false) else nextGo r m (k + 1) (64 * c + b2 x - 0x80) 0x80 0xbf
/-- the sign that stands first: it, how many bytes it takes, is there one -/
def nextF : Bytes → Int × Int × Bool
  | [] => (0, 0, false)
  | x :: r =>
    let t := leadF (b2 x)
    if t.1 = 1 then (b2 x, 1, true)
    else if t.1 = 0 then (0xfffd, 1, false)
    else if t.1 = 2 then nextGo r 1 1 (b2 x % 32) t.2.1 t.2.2
    else if t.1 = 3 then nextGo r 2 1 (b2 x % 16) t.2.1 t.2.2
    else nextGo r 3 1 (b2 x % 8) t.2.1 t.2.2

theorem ret3_iib' {a b : Int} {c : Bool} {t : Int × Int × Bool} (h : t = (a, b, c)) :
    Ending.returned (.tuple #[.int .i64 a, .int .i64 b, .bool c]) = .returned (.tuple #[.int .i64 t.1, .int .i64 t.2.1, .bool t.2.2]) := by subst h; rfl

theorem triple_of {t : Int × Int × Int} {n : Int} (h : t.1 = n) : t = (n, t.2.1, t.2.2) := by subst h; rfl
theorem lead_range (c : Int) : ((leadF c).1 = 0 ∨ (leadF c).1 = 1 ∨ (leadF c).1 = 2 ∨ (leadF c).1 = 3 ∨ (leadF c).1 = 4) ∧ 0 ≤ (leadF c).2.1 ∧ (leadF c).2.1 < 256 ∧ 0 ≤ (leadF c).2.2 ∧ (leadF c).2.2 < 256 := by
  unfold leadF
  repeat (first | split | (refine ⟨?_, ?_, ?_, ?_, ?_⟩ <;> simp))

theorem nextGo_drop_end {l : Bytes} {k m : Nat} {c lo hi : Int} (h : l.length ≤ k) : nextGo (l.drop k) (m + 1) k c lo hi = (0xfffd, (k : Int), false) := by
  rw [List.drop_eq_nil_of_le h]; rfl
theorem nextGo_drop_bad {l : Bytes} {k m : Nat} {c lo hi : Int} (h : k < l.length) (hb : b2 l[k] < lo ∨ hi < b2 l[k]) : nextGo (l.drop k) (m + 1) k c lo hi = (0xfffd, (k : Int), false) := by
  rw [List.drop_eq_getElem_cons h]; simp [nextGo, hb]
theorem nextGo_drop_ok {l : Bytes} {k m : Nat} {c lo hi : Int} (h : k < l.length) (hb : ¬ (b2 l[k] < lo ∨ hi < b2 l[k])) :
    nextGo (l.drop k) (m + 1) k c lo hi = nextGo (l.drop (k + 1)) m (k + 1) (64 * c + b2 l[k] - 0x80) 0x80 0xbf := by
  rw [List.drop_eq_getElem_cons h]; simp only [nextGo]; rw [if_neg hb]

/-- what a walk over n bytes knows of c behind k of them -/
def cOk (k : Nat) (c : Int) : Prop := (k = 1 → 0 ≤ c ∧ c ≤ 100) ∧ (k = 2 → -10000 ≤ c ∧ c ≤ 10000) ∧ (k = 3 → -1000000 ≤ c ∧ c ≤ 1000000) ∧ (k = 4 → -100000000 ≤ c ∧ c ≤ 100000000)
theorem cOk_bound {k : Nat} {c : Int} (h : cOk k c) (h1 : 1 ≤ k) (h4 : k ≤ 4) : -100000000 ≤ c ∧ c ≤ 100000000 := by
  obtain ⟨a, b, d, e⟩ := h
  have : k = 1 ∨ k = 2 ∨ k = 3 ∨ k = 4 := by omega
  rcases this with rfl | rfl | rfl | rfl
  · have := a rfl; omega
  · have := b rfl; omega
  · have := d rfl; omega
  · have := e rfl; omega
theorem cOk_step {k : Nat} {c x : Int} (h : cOk k c) (h1 : 1 ≤ k) (hx : 0 ≤ x ∧ x < 256) : cOk (k + 1) (64 * c + x - 128) := by
  obtain ⟨a, b, d, e⟩ := h
  refine ⟨fun hk => ?_, fun hk => ?_, fun hk => ?_, fun hk => ?_⟩
  · omega
  · obtain rfl : k = 1 := by omega
    have := a rfl; omega
  · obtain rfl : k = 2 := by omega
    have := b rfl; omega
  · obtain rfl : k = 3 := by omega
    have := d rfl; omega

set_option maxHeartbeats 1000000 in
theorem next_core (l : Bytes) (cap b o : Nat) (w : World) (hm : l.length ≤ maxLen) (h0 : 0 < l.length) (h : At w b o (Lib.byteCells l)) (n : Nat) (lo hi c0 : Int)
    (hl : leadF (b2 l[0]) = ((n : Int), lo, hi)) (hlo : 0 ≤ lo ∧ lo < 256) (hhi : 0 ≤ hi ∧ hi < 256) (hn : n = 2 ∧ c0 = b2 l[0] % 32 ∨ n = 3 ∧ c0 = b2 l[0] % 16 ∨ n = 4 ∧ c0 = b2 l[0] % 8) :
    Calls Tryd.prog 49 #[.slice (some ⟨b, o, none⟩) l.length cap] w fun e w' =>
      e = .returned (.tuple #[.int .i64 (nextGo (l.drop 1) (n - 1) 1 c0 lo hi).1, .int .i64 (nextGo (l.drop 1) (n - 1) 1 c0 lo hi).2.1, .bool (nextGo (l.drop 1) (n - 1) 1 c0 lo hi).2.2]) ∧ Below w.heap.size w w' := by
  unfold maxLen at hm
  have hc0 := h 0 (by simpa [Lib.byteCells] using h0)
  simp only [Lib.byteCells, List.getElem_map, Nat.add_zero] at hc0
  have hb0 := b2_lt l[0]
  have H : ∀ k (hk : k < l.length), w.cell? ⟨b, o + k, none⟩ = some (.int .u8 (b2 l[k])) := fun k hk => by
    have := h k (by simpa [Lib.byteCells] using hk)
    simpa [Lib.byteCells, b2] using this
  obtain ⟨x0, hx0⟩ : ∃ x, x = b2 l[0] := ⟨_, rfl⟩
  change w.cell? ⟨b, o, none⟩ = some (.int .u8 (b2 l[0])) at hc0
  rw [← hx0] at hc0 hb0 hl hn
  have cl := fun w => lead_any x0 w
  rw [hl] at cl
  simp only at cl
  obtain ⟨L, hL⟩ : ∃ L, L = l.length := ⟨_, rfl⟩
  rw [← hL] at hm h0 ⊢
  have HLL := Lib.hid hL; clear hL
  obtain ⟨r, hr⟩ : ∃ r, r = nextGo (l.drop 1) (n - 1) 1 c0 lo hi := ⟨_, rfl⟩
  rw [← hr]
  have HR := Lib.hid hr; clear hr
  have HH := Lib.hid H; clear H h
  have Hcl := Lib.hid cl; clear cl
  have Hl := Lib.hid hl; clear hl
  clear hx0
  have hcO : cOk 1 c0 := by
    unfold cOk
    rcases hn with ⟨_, h⟩ | ⟨_, h⟩ | ⟨_, h⟩ <;> refine ⟨fun _ => ?_, fun _ => ?_, fun _ => ?_, fun _ => ?_⟩ <;> omega
  have HO := Lib.hid hcO; clear hcO
  rcases hn with ⟨rfl, rfl⟩ | ⟨rfl, rfl⟩ | ⟨rfl, rfl⟩
  · go_enter Tryd.func49, Tryd.ntmps49
    go_wp2_with (go_at_call 68; refine (Hcl.out _).mono ?_; rintro e w' ⟨rfl, rfl⟩)
    go_loop [6, 7, 8, 9] (fun lo' hi' c' i => ∃ (k : Nat) (c l1 h1 : Int), 1 ≤ k ∧ k ≤ 2 ∧ k ≤ L ∧ i = .int .i64 k ∧ c' = .int .i64 c ∧ lo' = .int .u8 l1 ∧ hi' = .int .u8 h1 ∧ cOk k c ∧ (0 ≤ l1 ∧ l1 < 256) ∧ (0 ≤ h1 ∧ h1 < 256) ∧ nextGo (l.drop k) (2 - k) k c l1 h1 = r) (fun _ _ _ i => 2 - (intOf i).toNat)
    case atStart => exact ⟨1, _, lo, hi, by omega, by omega, by omega, rfl, rfl, rfl, rfl, HO.out, hlo, hhi, HR.out.symm⟩
    case round =>
      obtain ⟨k, c, l1, h1, hk1, hk, hkL, rfl, rfl, rfl, rfl, hc, ⟨hl1, hl2⟩, ⟨hh1, hh2⟩, hg⟩ := hrel
      have HG := Lib.hid hg; clear hg
      obtain ⟨hcb1, hcb2⟩ := cOk_bound hc hk1 (by omega)
      have HC := Lib.hid hc; clear hc
      by_cases hkn : k < 2
      · by_cases hkl : k < L
        · have hx : k < l.length := by have := HLL.out; omega
          have hcell := HH.out k hx
          obtain ⟨y, hy⟩ : ∃ y, y = b2 l[k] := ⟨_, rfl⟩
          rw [← hy] at hcell
          obtain ⟨hy1, hy2⟩ : 0 ≤ y ∧ y < 256 := by rw [hy]; exact b2_lt _
          have HY := Lib.hid hy; clear hy
          by_cases hb1 : y < l1
          · have hfin := nextGo_drop_bad (m := 2 - k - 1) (c := c) (lo := l1) (hi := h1) hx (.inl (by rw [← HY.out]; exact hb1))
            rw [show 2 - k - 1 + 1 = 2 - k by omega, HG.out] at hfin
            have HF := Lib.hid hfin; clear hfin
            go_wp2
            go_ret3
            exact ⟨ret3_iib' HF.out, Below.refl _ _⟩
          · by_cases hb2' : h1 < y
            · have hfin := nextGo_drop_bad (m := 2 - k - 1) (c := c) (lo := l1) (hi := h1) hx (.inr (by rw [← HY.out]; exact hb2'))
              rw [show 2 - k - 1 + 1 = 2 - k by omega, HG.out] at hfin
              have HF := Lib.hid hfin; clear hfin
              go_wp2
              go_ret3
              exact ⟨ret3_iib' HF.out, Below.refl _ _⟩
            · have hfin := nextGo_drop_ok (m := 2 - k - 1) (c := c) (lo := l1) (hi := h1) hx (by rw [← HY.out]; omega)
              rw [show 2 - k - 1 + 1 = 2 - k by omega, HG.out, ← HY.out, show 2 - k - 1 = 2 - (k + 1) by omega] at hfin
              have HF := Lib.hid hfin; clear hfin
              have hs := cOk_step HC.out hk1 ⟨hy1, hy2⟩
              have HS := Lib.hid hs; clear hs
              go_wp2
              go_round
              case rel => exact ⟨k + 1, _, _, _, by omega, by omega, by omega, by go_num, rfl, rfl, rfl, HS.out, by omega, by omega, HF.out.symm⟩
              case measure => simp [intOf]; omega
        · have hfin := nextGo_drop_end (l := l) (k := k) (m := 2 - k - 1) (c := c) (lo := l1) (hi := h1) (by have := HLL.out; omega)
          rw [show 2 - k - 1 + 1 = 2 - k by omega, HG.out] at hfin
          have HF := Lib.hid hfin; clear hfin
          go_wp2
          go_ret3
          exact ⟨ret3_iib' HF.out, Below.refl _ _⟩
      · obtain rfl : k = 2 := by omega
        have hfin : r = (c, (2 : Int), true) := by
          have := HG.out
          rw [← this]
          simp [nextGo]
        have HF := Lib.hid hfin; clear hfin
        go_wp2
        go_ret3
        exact ⟨ret3_iib' HF.out, Below.refl _ _⟩
  · go_enter Tryd.func49, Tryd.ntmps49
    go_wp2_with (go_at_call 68; refine (Hcl.out _).mono ?_; rintro e w' ⟨rfl, rfl⟩)
    go_loop [6, 7, 8, 9] (fun lo' hi' c' i => ∃ (k : Nat) (c l1 h1 : Int), 1 ≤ k ∧ k ≤ 3 ∧ k ≤ L ∧ i = .int .i64 k ∧ c' = .int .i64 c ∧ lo' = .int .u8 l1 ∧ hi' = .int .u8 h1 ∧ cOk k c ∧ (0 ≤ l1 ∧ l1 < 256) ∧ (0 ≤ h1 ∧ h1 < 256) ∧ nextGo (l.drop k) (3 - k) k c l1 h1 = r) (fun _ _ _ i => 3 - (intOf i).toNat)
    case atStart => exact ⟨1, _, lo, hi, by omega, by omega, by omega, rfl, rfl, rfl, rfl, HO.out, hlo, hhi, HR.out.symm⟩
    case round =>
      obtain ⟨k, c, l1, h1, hk1, hk, hkL, rfl, rfl, rfl, rfl, hc, ⟨hl1, hl2⟩, ⟨hh1, hh2⟩, hg⟩ := hrel
      have HG := Lib.hid hg; clear hg
      obtain ⟨hcb1, hcb2⟩ := cOk_bound hc hk1 (by omega)
      have HC := Lib.hid hc; clear hc
      by_cases hkn : k < 3
      · by_cases hkl : k < L
        · have hx : k < l.length := by have := HLL.out; omega
          have hcell := HH.out k hx
          obtain ⟨y, hy⟩ : ∃ y, y = b2 l[k] := ⟨_, rfl⟩
          rw [← hy] at hcell
          obtain ⟨hy1, hy2⟩ : 0 ≤ y ∧ y < 256 := by rw [hy]; exact b2_lt _
          have HY := Lib.hid hy; clear hy
          by_cases hb1 : y < l1
          · have hfin := nextGo_drop_bad (m := 3 - k - 1) (c := c) (lo := l1) (hi := h1) hx (.inl (by rw [← HY.out]; exact hb1))
            rw [show 3 - k - 1 + 1 = 3 - k by omega, HG.out] at hfin
            have HF := Lib.hid hfin; clear hfin
            go_wp2
            go_ret3
            exact ⟨ret3_iib' HF.out, Below.refl _ _⟩
          · by_cases hb2' : h1 < y
            · have hfin := nextGo_drop_bad (m := 3 - k - 1) (c := c) (lo := l1) (hi := h1) hx (.inr (by rw [← HY.out]; exact hb2'))
              rw [show 3 - k - 1 + 1 = 3 - k by omega, HG.out] at hfin
              have HF := Lib.hid hfin; clear hfin
              go_wp2
              go_ret3
              exact ⟨ret3_iib' HF.out, Below.refl _ _⟩
            · have hfin := nextGo_drop_ok (m := 3 - k - 1) (c := c) (lo := l1) (hi := h1) hx (by rw [← HY.out]; omega)
              rw [show 3 - k - 1 + 1 = 3 - k by omega, HG.out, ← HY.out, show 3 - k - 1 = 3 - (k + 1) by omega] at hfin
              have HF := Lib.hid hfin; clear hfin
              have hs := cOk_step HC.out hk1 ⟨hy1, hy2⟩
              have HS := Lib.hid hs; clear hs
              go_wp2
              go_round
              case rel => exact ⟨k + 1, _, _, _, by omega, by omega, by omega, by go_num, rfl, rfl, rfl, HS.out, by omega, by omega, HF.out.symm⟩
              case measure => simp [intOf]; omega
        · have hfin := nextGo_drop_end (l := l) (k := k) (m := 3 - k - 1) (c := c) (lo := l1) (hi := h1) (by have := HLL.out; omega)
          rw [show 3 - k - 1 + 1 = 3 - k by omega, HG.out] at hfin
          have HF := Lib.hid hfin; clear hfin
          go_wp2
          go_ret3
          exact ⟨ret3_iib' HF.out, Below.refl _ _⟩
      · obtain rfl : k = 3 := by omega
        have hfin : r = (c, (3 : Int), true) := by
          have := HG.out
          rw [← this]
          simp [nextGo]
        have HF := Lib.hid hfin; clear hfin
        go_wp2
        go_ret3
        exact ⟨ret3_iib' HF.out, Below.refl _ _⟩
  · go_enter Tryd.func49, Tryd.ntmps49
    go_wp2_with (go_at_call 68; refine (Hcl.out _).mono ?_; rintro e w' ⟨rfl, rfl⟩)
    go_loop [6, 7, 8, 9] (fun lo' hi' c' i => ∃ (k : Nat) (c l1 h1 : Int), 1 ≤ k ∧ k ≤ 4 ∧ k ≤ L ∧ i = .int .i64 k ∧ c' = .int .i64 c ∧ lo' = .int .u8 l1 ∧ hi' = .int .u8 h1 ∧ cOk k c ∧ (0 ≤ l1 ∧ l1 < 256) ∧ (0 ≤ h1 ∧ h1 < 256) ∧ nextGo (l.drop k) (4 - k) k c l1 h1 = r) (fun _ _ _ i => 4 - (intOf i).toNat)
    case atStart => exact ⟨1, _, lo, hi, by omega, by omega, by omega, rfl, rfl, rfl, rfl, HO.out, hlo, hhi, HR.out.symm⟩
    case round =>
      obtain ⟨k, c, l1, h1, hk1, hk, hkL, rfl, rfl, rfl, rfl, hc, ⟨hl1, hl2⟩, ⟨hh1, hh2⟩, hg⟩ := hrel
      have HG := Lib.hid hg; clear hg
      obtain ⟨hcb1, hcb2⟩ := cOk_bound hc hk1 (by omega)
      have HC := Lib.hid hc; clear hc
      by_cases hkn : k < 4
      · by_cases hkl : k < L
        · have hx : k < l.length := by have := HLL.out; omega
          have hcell := HH.out k hx
          obtain ⟨y, hy⟩ : ∃ y, y = b2 l[k] := ⟨_, rfl⟩
          rw [← hy] at hcell
          obtain ⟨hy1, hy2⟩ : 0 ≤ y ∧ y < 256 := by rw [hy]; exact b2_lt _
          have HY := Lib.hid hy; clear hy
          by_cases hb1 : y < l1
          · have hfin := nextGo_drop_bad (m := 4 - k - 1) (c := c) (lo := l1) (hi := h1) hx (.inl (by rw [← HY.out]; exact hb1))
            rw [show 4 - k - 1 + 1 = 4 - k by omega, HG.out] at hfin
            have HF := Lib.hid hfin; clear hfin
            go_wp2
            go_ret3
            exact ⟨ret3_iib' HF.out, Below.refl _ _⟩
          · by_cases hb2' : h1 < y
            · have hfin := nextGo_drop_bad (m := 4 - k - 1) (c := c) (lo := l1) (hi := h1) hx (.inr (by rw [← HY.out]; exact hb2'))
              rw [show 4 - k - 1 + 1 = 4 - k by omega, HG.out] at hfin
              have HF := Lib.hid hfin; clear hfin
              go_wp2
              go_ret3
              exact ⟨ret3_iib' HF.out, Below.refl _ _⟩
            · have hfin := nextGo_drop_ok (m := 4 - k - 1) (c := c) (lo := l1) (hi := h1) hx (by rw [← HY.out]; omega)
              rw [show 4 - k - 1 + 1 = 4 - k by omega, HG.out, ← HY.out, show 4 - k - 1 = 4 - (k + 1) by omega] at hfin
              have HF := Lib.hid hfin; clear hfin
              have hs := cOk_step HC.out hk1 ⟨hy1, hy2⟩
              have HS := Lib.hid hs; clear hs
              go_wp2
              go_round
              case rel => exact ⟨k + 1, _, _, _, by omega, by omega, by omega, by go_num, rfl, rfl, rfl, HS.out, by omega, by omega, HF.out.symm⟩
              case measure => simp [intOf]; omega
        · have hfin := nextGo_drop_end (l := l) (k := k) (m := 4 - k - 1) (c := c) (lo := l1) (hi := h1) (by have := HLL.out; omega)
          rw [show 4 - k - 1 + 1 = 4 - k by omega, HG.out] at hfin
          have HF := Lib.hid hfin; clear hfin
          go_wp2
          go_ret3
          exact ⟨ret3_iib' HF.out, Below.refl _ _⟩
      · obtain rfl : k = 4 := by omega
        have hfin : r = (c, (4 : Int), true) := by
          have := HG.out
          rw [← this]
          simp [nextGo]
        have HF := Lib.hid hfin; clear hfin
        go_wp2
        go_ret3
        exact ⟨ret3_iib' HF.out, Below.refl _ _⟩

set_option maxHeartbeats 1000000 in
theorem next_small (l : Bytes) (cap b o : Nat) (w : World) (hm : l.length ≤ maxLen) (h0 : 0 < l.length) (h : At w b o (Lib.byteCells l)) (lo hi : Int) (n : Nat) (hn : n = 0 ∨ n = 1)
    (hl : leadF (b2 l[0]) = ((n : Int), lo, hi)) :
    Calls Tryd.prog 49 #[.slice (some ⟨b, o, none⟩) l.length cap] w fun e w' => e = .returned (.tuple #[.int .i64 (if n = 1 then b2 l[0] else 0xfffd), .int .i64 1, .bool (n == 1)]) ∧ Below w.heap.size w w' := by
  unfold maxLen at hm
  have hc0 := h 0 (by simpa [Lib.byteCells] using h0)
  simp only [Lib.byteCells, List.getElem_map, Nat.add_zero] at hc0
  have hb0 := b2_lt l[0]
  change w.cell? ⟨b, o, none⟩ = some (.int .u8 (b2 l[0])) at hc0
  obtain ⟨x0, hx0⟩ : ∃ x, x = b2 l[0] := ⟨_, rfl⟩
  rw [← hx0] at hc0 hb0 hl ⊢
  have cl := fun w => lead_any x0 w
  rw [hl] at cl
  simp only at cl
  have Hcl := Lib.hid cl; clear cl hl hx0
  obtain ⟨L, hL⟩ : ∃ L, L = l.length := ⟨_, rfl⟩
  rw [← hL] at hm h0 ⊢
  clear hL
  have _ := hm
  rcases hn with rfl | rfl
  all_goals go_enter Tryd.func49, Tryd.ntmps49
  all_goals go_wp2_with (go_at_call 68; refine (Hcl.out _).mono ?_; rintro e w' ⟨rfl, rfl⟩)
  all_goals go_ret3
  all_goals exact ⟨rfl, Below.refl _ _⟩

/-- Next, of a row of bytes that is not empty -/
theorem next_any (x : UInt8) (r : Bytes) (v : Value) (w : World) (B : Nat) (h : Sl B w v (Lib.byteCells (x :: r))) :
    Calls Tryd.prog 49 #[v] w fun e w' => e = .returned (.tuple #[.int .i64 (nextF (x :: r)).1, .int .i64 (nextF (x :: r)).2.1, .bool (nextF (x :: r)).2.2]) ∧ Below w.heap.size w w' := by
  obtain ⟨c, hc, hm, h⟩ := h
  rcases h with ⟨hn, _⟩ | ⟨b, o, _, rfl, ha⟩
  · simp [Lib.byteCells] at hn
  · rw [Lib.byteCells_length] at hc ⊢
    obtain ⟨hr, hlo1, hlo2, hhi1, hhi2⟩ := lead_range (b2 x)
    have hx : (x :: r)[0]'(by simp) = x := rfl
    rcases hr with hr | hr | hr | hr | hr
    · refine (next_small (x :: r) c b o w (by omega) (by simp) ha (leadF (b2 x)).2.1 (leadF (b2 x)).2.2 0 (.inl rfl) (by rw [hx]; exact triple_of (by rw [hr]; rfl))).mono fun e w' he => ⟨?_, he.2⟩
      rw [he.1]; simp [nextF, hr]
    · refine (next_small (x :: r) c b o w (by omega) (by simp) ha (leadF (b2 x)).2.1 (leadF (b2 x)).2.2 1 (.inr rfl) (by rw [hx]; exact triple_of (by rw [hr]; rfl))).mono fun e w' he => ⟨?_, he.2⟩
      rw [he.1]; simp [nextF, hr]
    · refine (next_core (x :: r) c b o w (by omega) (by simp) ha 2 (leadF (b2 x)).2.1 (leadF (b2 x)).2.2 (b2 x % 32) (by rw [hx]; exact triple_of (by rw [hr]; rfl)) ⟨hlo1, hlo2⟩ ⟨hhi1, hhi2⟩ (.inl ⟨rfl, rfl⟩)).mono fun e w' he => ⟨?_, he.2⟩
      rw [he.1]; simp [nextF, hr]
    · refine (next_core (x :: r) c b o w (by omega) (by simp) ha 3 (leadF (b2 x)).2.1 (leadF (b2 x)).2.2 (b2 x % 16) (by rw [hx]; exact triple_of (by rw [hr]; rfl)) ⟨hlo1, hlo2⟩ ⟨hhi1, hhi2⟩ (.inr (.inl ⟨rfl, rfl⟩))).mono fun e w' he => ⟨?_, he.2⟩
      rw [he.1]; simp [nextF, hr]
    · refine (next_core (x :: r) c b o w (by omega) (by simp) ha 4 (leadF (b2 x)).2.1 (leadF (b2 x)).2.2 (b2 x % 8) (by rw [hx]; exact triple_of (by rw [hr]; rfl)) ⟨hlo1, hlo2⟩ ⟨hhi1, hhi2⟩ (.inr (.inr ⟨rfl, rfl⟩))).mono fun e w' he => ⟨?_, he.2⟩
      rw [he.1]; simp [nextF, hr]

end Go.Proofs.YtledmlgebfbhaaaDoor
