/- TextD TextE TextF TextG: joined. -/
import Derived.Test.YtgfklkfbccknoaaGreatDoorGSlic
import Derived.Deep.QuietTactic
import Derived.BigQuiet
/- The reference's Next: the sign that stands first. -/
namespace Go.Proofs.YtgfklkfbccknoaaGreatDoor
open Go.RowKit
set_option maxRecDepth 10000


/-- m bytes more of a sign of which k were read, which are worth c; the next one lies from lo to hi -/
def nextGo : Bytes → Nat → Nat → Int → Int → Int → Int × Int × Bool
  | _, 0, k, c, _, _ => (c, k, true)
  | [], _ + 1, k, _, _, _ => (0xfffd, k, false)
  | x :: r, m + 1, k, c, lo, hi => if b2 x < lo ∨ hi < b2 x then (0xfffd, k, false) else nextGo r m (k + 1) (64 * c + b2 x - 0x80) 0x80 0xbf
/-- the sign that stands first: it, how many bytes it takes, is there one -/
def nextF : Bytes → Int × Int × Bool
  | [] => (0, 0, false)
  | x :: r =>
    let t := leadF (b2 x)
    if t.1 = 1 then (b2 x, 1, true)
    else if t.1 = 0 then (0xfffd, 1, false)
    else if t.1 = 2 then nextGo r 1 1 (b2 x % 32) t.2.1 t.2.2
    else if t.1 = 3 then nextGo r 2 1 (b2 x % 16) t.2.1 t.2.2
    else nextGo r 3 1 (b2 x % 8) t.2.1 t.2.2

theorem ret3_iib' {a b : Int} {c : Bool} {t : Int × Int × Bool} (h : t = (a, b, c)) :
    Ending.returned (.tuple #[.int .i64 a, .int .i64 b, .bool c]) = .returned (.tuple #[.int .i64 t.1, .int .i64 t.2.1, .bool t.2.2]) := by subst h; rfl

theorem triple_of {t : Int × Int × Int} {n : Int} (h : t.1 = n) : t = (n, t.2.1, t.2.2) := by subst h; rfl
theorem lead_range (c : Int) : ((leadF c).1 = 0 ∨ (leadF c).1 = 1 ∨ (leadF c).1 = 2 ∨ (leadF c).1 = 3 ∨ (leadF c).1 = 4) ∧ 0 ≤ (leadF c).2.1 ∧ (leadF c).2.1 < 256 ∧ 0 ≤ (leadF c).2.2 ∧ (leadF c).2.2 < 256 := by
  unfold leadF
  repeat (first | split | (refine ⟨?_, ?_, ?_, ?_, ?_⟩ <;> simp))

theorem nextGo_drop_end {l : Bytes} {k m : Nat} {c lo hi : Int} (h : l.length ≤ k) : nextGo (l.drop k) (m + 1) k c lo hi = (0xfffd, (k : Int), false) := by
  rw [List.drop_eq_nil_of_le h]; rfl
theorem nextGo_drop_bad {l : Bytes} {k m : Nat} {c lo hi : Int} (h : k < l.length) (hb : b2 l[k] < lo ∨ hi < b2 l[k]) : nextGo (l.drop k) (m + 1) k c lo hi = (0xfffd, (k : Int), false) := by
  rw [List.drop_eq_getElem_cons h]; simp [nextGo, hb]
theorem nextGo_drop_ok {l : Bytes} {k m : Nat} {c lo hi : Int} (h : k < l.length) (hb : ¬ (b2 l[k] < lo ∨ hi < b2 l[k])) :
    nextGo (l.drop k) (m + 1) k c lo hi = nextGo (l.drop (k + 1)) m (k + 1) (64 * c + b2 l[k] - 0x80) 0x80 0xbf := by
  rw [List.drop_eq_getElem_cons h]; simp only [nextGo]; rw [if_neg hb]

/-- what a walk over n bytes knows of c behind k of them -/
def cOk (k : Nat) (c : Int) : Prop := (k = 1 → 0 ≤ c ∧ c ≤ 100) ∧ (k = 2 → -10000 ≤ c ∧ c ≤ 10000) ∧ (k = 3 → -1000000 ≤ c ∧ c ≤ 1000000) ∧ (k = 4 → -100000000 ≤ c ∧ c ≤ 100000000)
theorem cOk_bound {k : Nat} {c : Int} (h : cOk k c) (h1 : 1 ≤ k) (h4 : k ≤ 4) : -100000000 ≤ c ∧ c ≤ 100000000 := by
  obtain ⟨a, b, d, e⟩ := h
  have : k = 1 ∨ k = 2 ∨ k = 3 ∨ k = 4 := by omega
  rcases this with rfl | rfl | rfl | rfl
  · have := a rfl; omega
  · have := b rfl; omega
  · have := d rfl; omega
  · have := e rfl; omega
theorem cOk_step {k : Nat} {c x : Int} (h : cOk k c) (h1 : 1 ≤ k) (hx : 0 ≤ x ∧ x < 256) : cOk (k + 1) (64 * c + x - 128) := by
  obtain ⟨a, b, d, e⟩ := h
  refine ⟨fun hk => ?_, fun hk => ?_, fun hk => ?_, fun hk => ?_⟩
  · omega
  · obtain rfl : k = 1 := by omega
    have := a rfl; omega
  · obtain rfl : k = 2 := by omega
    have := b rfl; omega
  · obtain rfl : k = 3 := by omega
    have := d rfl; omega

set_option maxHeartbeats 1000000 in
theorem next_core (l : Bytes) (cap b o : Nat) (w : World) (hm : l.length ≤ maxLen) (h0 : 0 < l.length) (h : At w b o (Lib.byteCells l)) (n : Nat) (lo hi c0 : Int)
    (hl : leadF (b2 l[0]) = ((n : Int), lo, hi)) (hlo : 0 ≤ lo ∧ lo < 256) (hhi : 0 ≤ hi ∧ hi < 256) (hn : n = 2 ∧ c0 = b2 l[0] % 32 ∨ n = 3 ∧ c0 = b2 l[0] % 16 ∨ n = 4 ∧ c0 = b2 l[0] % 8) :
    Calls Tryz.prog 76 #[.slice (some ⟨b, o, none⟩) l.length cap] w fun e w' =>
      e = .returned (.tuple #[.int .i64 (nextGo (l.drop 1) (n - 1) 1 c0 lo hi).1, .int .i64 (nextGo (l.drop 1) (n - 1) 1 c0 lo hi).2.1, .bool (nextGo (l.drop 1) (n - 1) 1 c0 lo hi).2.2]) ∧ Below w.heap.size w w' := by
  unfold maxLen at hm
  have hc0 := h 0 (by simpa [Lib.byteCells] using h0)
  simp only [Lib.byteCells, List.getElem_map, Nat.add_zero] at hc0
  have hb0 := b2_lt l[0]
  have H : ∀ k (hk : k < l.length), w.cell? ⟨b, o + k, none⟩ = some (.int .u8 (b2 l[k])) := fun k hk => by
    have := h k (by simpa [Lib.byteCells] using hk)
    simpa [Lib.byteCells, b2] using this
  obtain ⟨x0, hx0⟩ : ∃ x, x = b2 l[0] := ⟨_, rfl⟩
  change w.cell? ⟨b, o, none⟩ = some (.int .u8 (b2 l[0])) at hc0
  rw [← hx0] at hc0 hb0 hl hn
  have cl := fun w => lead_any x0 w
  rw [hl] at cl
  simp only at cl
  obtain ⟨L, hL⟩ : ∃ L, L = l.length := ⟨_, rfl⟩
  rw [← hL] at hm h0 ⊢
  have HLL := Lib.hid hL; clear hL
  obtain ⟨r, hr⟩ : ∃ r, r = nextGo (l.drop 1) (n - 1) 1 c0 lo hi := ⟨_, rfl⟩
  rw [← hr]
  have HR := Lib.hid hr; clear hr
  have HH := Lib.hid H; clear H h
  have Hcl := Lib.hid cl; clear cl
  have Hl := Lib.hid hl; clear hl
  clear hx0
  have hcO : cOk 1 c0 := by
    unfold cOk
    rcases hn with ⟨_, h⟩ | ⟨_, h⟩ | ⟨_, h⟩ <;> refine ⟨fun _ => ?_, fun _ => ?_, fun _ => ?_, fun _ => ?_⟩ <;> omega
  have HO := Lib.hid hcO; clear hcO
  rcases hn with ⟨rfl, rfl⟩ | ⟨rfl, rfl⟩ | ⟨rfl, rfl⟩
  · go_enter Tryz.func76, Tryz.ntmps76
    go_wp2_with (go_at_call 107; refine (Hcl.out _).mono ?_; rintro e w' ⟨rfl, rfl⟩)
    go_loop [6, 7, 8, 9] (fun lo' hi' c' i => ∃ (k : Nat) (c l1 h1 : Int), 1 ≤ k ∧ k ≤ 2 ∧ k ≤ L ∧ i = .int .i64 k ∧ c' = .int .i64 c ∧ lo' = .int .u8 l1 ∧ hi' = .int .u8 h1 ∧ cOk k c ∧ (0 ≤ l1 ∧ l1 < 256) ∧ (0 ≤ h1 ∧ h1 < 256) ∧ nextGo (l.drop k) (2 - k) k c l1 h1 = r) (fun _ _ _ i => 2 - (intOf i).toNat)
    case atStart => exact ⟨1, _, lo, hi, by omega, by omega, by omega, rfl, rfl, rfl, rfl, HO.out, hlo, hhi, HR.out.symm⟩
    case round =>
      obtain ⟨k, c, l1, h1, hk1, hk, hkL, rfl, rfl, rfl, rfl, hc, ⟨hl1, hl2⟩, ⟨hh1, hh2⟩, hg⟩ := hrel
      have HG := Lib.hid hg; clear hg
      obtain ⟨hcb1, hcb2⟩ := cOk_bound hc hk1 (by omega)
      have HC := Lib.hid hc; clear hc
      by_cases hkn : k < 2
      · by_cases hkl : k < L
        · have hx : k < l.length := by have := HLL.out; omega
          have hcell := HH.out k hx
          obtain ⟨y, hy⟩ : ∃ y, y = b2 l[k] := ⟨_, rfl⟩
          rw [← hy] at hcell
          obtain ⟨hy1, hy2⟩ : 0 ≤ y ∧ y < 256 := by rw [hy]; exact b2_lt _
          have HY := Lib.hid hy; clear hy
          by_cases hb1 : y < l1
          · have hfin := nextGo_drop_bad (m := 2 - k - 1) (c := c) (lo := l1) (hi := h1) hx (.inl (by rw [← HY.out]; exact hb1))
            rw [show 2 - k - 1 + 1 = 2 - k by omega, HG.out] at hfin
            have HF := Lib.hid hfin; clear hfin
            go_wp2
            go_ret3
            exact ⟨ret3_iib' HF.out, Below.refl _ _⟩
          · by_cases hb2' : h1 < y
            · have hfin := nextGo_drop_bad (m := 2 - k - 1) (c := c) (lo := l1) (hi := h1) hx (.inr (by rw [← HY.out]; exact hb2'))
              rw [show 2 - k - 1 + 1 = 2 - k by omega, HG.out] at hfin
              have HF := Lib.hid hfin; clear hfin
              go_wp2
              go_ret3
              exact ⟨ret3_iib' HF.out, Below.refl _ _⟩
            · have hfin := nextGo_drop_ok (m := 2 - k - 1) (c := c) (lo := l1) (hi := h1) hx (by rw [← HY.out]; omega)
              rw [show 2 - k - 1 + 1 = 2 - k by omega, HG.out, ← HY.out, show 2 - k - 1 = 2 - (k + 1) by omega] at hfin
              have HF := Lib.hid hfin; clear hfin
              have hs := cOk_step HC.out hk1 ⟨hy1, hy2⟩
              have HS := Lib.hid hs; clear hs
              go_wp2
              go_round
              case rel => exact ⟨k + 1, _, _, _, by omega, by omega, by omega, by go_num, rfl, rfl, rfl, HS.out, by omega, by omega, HF.out.symm⟩
              case measure => simp [intOf]; omega
        · have hfin := nextGo_drop_end (l := l) (k := k) (m := 2 - k - 1) (c := c) (lo := l1) (hi := h1) (by have := HLL.out; omega)
          rw [show 2 - k - 1 + 1 = 2 - k by omega, HG.out] at hfin
          have HF := Lib.hid hfin; clear hfin
          go_wp2
          go_ret3
          exact ⟨ret3_iib' HF.out, Below.refl _ _⟩
      · obtain rfl : k = 2 := by omega
        have hfin : r = (c, (2 : Int), true) := by
          have := HG.out
          rw [← this]
          simp [nextGo]
        have HF := Lib.hid hfin; clear hfin
        go_wp2
        go_ret3
        exact ⟨ret3_iib' HF.out, Below.refl _ _⟩
  · go_enter Tryz.func76, Tryz.ntmps76
    go_wp2_with (go_at_call 107; refine (Hcl.out _).mono ?_; rintro e w' ⟨rfl, rfl⟩)
    go_loop [6, 7, 8, 9] (fun lo' hi' c' i => ∃ (k : Nat) (c l1 h1 : Int), 1 ≤ k ∧ k ≤ 3 ∧ k ≤ L ∧ i = .int .i64 k ∧ c' = .int .i64 c ∧ lo' = .int .u8 l1 ∧ hi' = .int .u8 h1 ∧ cOk k c ∧ (0 ≤ l1 ∧ l1 < 256) ∧ (0 ≤ h1 ∧ h1 < 256) ∧ nextGo (l.drop k) (3 - k) k c l1 h1 = r) (fun _ _ _ i => 3 - (intOf i).toNat)
    case atStart => exact ⟨1, _, lo, hi, by omega, by omega, by omega, rfl, rfl, rfl, rfl, HO.out, hlo, hhi, HR.out.symm⟩
    case round =>
      obtain ⟨k, c, l1, h1, hk1, hk, hkL, rfl, rfl, rfl, rfl, hc, ⟨hl1, hl2⟩, ⟨hh1, hh2⟩, hg⟩ := hrel
      have HG := Lib.hid hg; clear hg
      obtain ⟨hcb1, hcb2⟩ := cOk_bound hc hk1 (by omega)
      have HC := Lib.hid hc; clear hc
      by_cases hkn : k < 3
      · by_cases hkl : k < L
        · have hx : k < l.length := by have := HLL.out; omega
          have hcell := HH.out k hx
          obtain ⟨y, hy⟩ : ∃ y, y = b2 l[k] := ⟨_, rfl⟩
          rw [← hy] at hcell
          obtain ⟨hy1, hy2⟩ : 0 ≤ y ∧ y < 256 := by rw [hy]; exact b2_lt _
          have HY := Lib.hid hy; clear hy
          by_cases hb1 : y < l1
          · have hfin := nextGo_drop_bad (m := 3 - k - 1) (c := c) (lo := l1) (hi := h1) hx (.inl (by rw [← HY.out]; exact hb1))
            rw [show 3 - k - 1 + 1 = 3 - k by omega, HG.out] at hfin
            have HF := Lib.hid hfin; clear hfin
            go_wp2
            go_ret3
            exact ⟨ret3_iib' HF.out, Below.refl _ _⟩
          · by_cases hb2' : h1 < y
            · have hfin := nextGo_drop_bad (m := 3 - k - 1) (c := c) (lo := l1) (hi := h1) hx (.inr (by rw [← HY.out]; exact hb2'))
              rw [show 3 - k - 1 + 1 = 3 - k by omega, HG.out] at hfin
              have HF := Lib.hid hfin; clear hfin
              go_wp2
              go_ret3
              exact ⟨ret3_iib' HF.out, Below.refl _ _⟩
            · have hfin := nextGo_drop_ok (m := 3 - k - 1) (c := c) (lo := l1) (hi := h1) hx (by rw [← HY.out]; omega)
              rw [show 3 - k - 1 + 1 = 3 - k by omega, HG.out, ← HY.out, show 3 - k - 1 = 3 - (k + 1) by omega] at hfin
              have HF := Lib.hid hfin; clear hfin
              have hs := cOk_step HC.out hk1 ⟨hy1, hy2⟩
              have HS := Lib.hid hs; clear hs
              go_wp2
              go_round
              case rel => exact ⟨k + 1, _, _, _, by omega, by omega, by omega, by go_num, rfl, rfl, rfl, HS.out, by omega, by omega, HF.out.symm⟩
              case measure => simp [intOf]; omega
        · have hfin := nextGo_drop_end (l := l) (k := k) (m := 3 - k - 1) (c := c) (lo := l1) (hi := h1) (by have := HLL.out; omega)
          rw [show 3 - k - 1 + 1 = 3 - k by omega, HG.out] at hfin
          have HF := Lib.hid hfin; clear hfin
          go_wp2
          go_ret3
          exact ⟨ret3_iib' HF.out, Below.refl _ _⟩
      · obtain rfl : k = 3 := by omega
        have hfin : r = (c, (3 : Int), true) := by
          have := HG.out
          rw [← this]
          simp [nextGo]
        have HF := Lib.hid hfin; clear hfin
        go_wp2
        go_ret3
        exact ⟨ret3_iib' HF.out, Below.refl _ _⟩
  · go_enter Tryz.func76, Tryz.ntmps76
    go_wp2_with (go_at_call 107; refine (Hcl.out _).mono ?_; rintro e w' ⟨rfl, rfl⟩)
    go_loop [6, 7, 8, 9] (fun lo' hi' c' i => ∃ (k : Nat) (c l1 h1 : Int), 1 ≤ k ∧ k ≤ 4 ∧ k ≤ L ∧ i = .int .i64 k ∧ c' = .int .i64 c ∧ lo' = .int .u8 l1 ∧ hi' = .int .u8 h1 ∧ cOk k c ∧ (0 ≤ l1 ∧ l1 < 256) ∧ (0 ≤ h1 ∧ h1 < 256) ∧ nextGo (l.drop k) (4 - k) k c l1 h1 = r) (fun _ _ _ i => 4 - (intOf i).toNat)
    case atStart => exact ⟨1, _, lo, hi, by omega, by omega, by omega, rfl, rfl, rfl, rfl, HO.out, hlo, hhi, HR.out.symm⟩
    case round =>
      obtain ⟨k, c, l1, h1, hk1, hk, hkL, rfl, rfl, rfl, rfl, hc, ⟨hl1, hl2⟩, ⟨hh1, hh2⟩, hg⟩ := hrel
      have HG := Lib.hid hg; clear hg
      obtain ⟨hcb1, hcb2⟩ := cOk_bound hc hk1 (by omega)
      have HC := Lib.hid hc; clear hc
      by_cases hkn : k < 4
      · by_cases hkl : k < L
        · have hx : k < l.length := by have := HLL.out; omega
          have hcell := HH.out k hx
          obtain ⟨y, hy⟩ : ∃ y, y = b2 l[k] := ⟨_, rfl⟩
          rw [← hy] at hcell
          obtain ⟨hy1, hy2⟩ : 0 ≤ y ∧ y < 256 := by rw [hy]; exact b2_lt _
          have HY := Lib.hid hy; clear hy
          by_cases hb1 : y < l1
          · have hfin := nextGo_drop_bad (m := 4 - k - 1) (c := c) (lo := l1) (hi := h1) hx (.inl (by rw [← HY.out]; exact hb1))
            rw [show 4 - k - 1 + 1 = 4 - k by omega, HG.out] at hfin
            have HF := Lib.hid hfin; clear hfin
            go_wp2
            go_ret3
            exact ⟨ret3_iib' HF.out, Below.refl _ _⟩
          · by_cases hb2' : h1 < y
            · have hfin := nextGo_drop_bad (m := 4 - k - 1) (c := c) (lo := l1) (hi := h1) hx (.inr (by rw [← HY.out]; exact hb2'))
              rw [show 4 - k - 1 + 1 = 4 - k by omega, HG.out] at hfin
              have HF := Lib.hid hfin; clear hfin
              go_wp2
              go_ret3
              exact ⟨ret3_iib' HF.out, Below.refl _ _⟩
            · have hfin := nextGo_drop_ok (m := 4 - k - 1) (c := c) (lo := l1) (hi := h1) hx (by rw [← HY.out]; omega)
              rw [show 4 - k - 1 + 1 = 4 - k by omega, HG.out, ← HY.out, show 4 - k - 1 = 4 - (k + 1) by omega] at hfin
              have HF := Lib.hid hfin; clear hfin
              have hs := cOk_step HC.out hk1 ⟨hy1, hy2⟩
              have HS := Lib.hid hs; clear hs
              go_wp2
              go_round
              case rel => exact ⟨k + 1, _, _, _, by omega, by omega, by omega, by go_num, rfl, rfl, rfl, HS.out, by omega, by omega, HF.out.symm⟩
              case measure => simp [intOf]; omega
        · have hfin := nextGo_drop_end (l := l) (k := k) (m := 4 - k - 1) (c := c) (lo := l1) (hi := h1) (by have := HLL.out; omega)
          rw [show 4 - k - 1 + 1 = 4 - k by omega, HG.out] at hfin
          have HF := Lib.hid hfin; clear hfin
          go_wp2
          go_ret3
          exact ⟨ret3_iib' HF.out, Below.refl _ _⟩
      · obtain rfl : k = 4 := by omega
        have hfin : r = (c, (4 : Int), true) := by
          have := HG.out
          rw [← this]
          simp [nextGo]
        have HF := Lib.hid hfin; clear hfin
        go_wp2
        go_ret3
        exact ⟨ret3_iib' HF.out, Below.refl _ _⟩

set_option maxHeartbeats 1000000 in
theorem next_small (l : Bytes) (cap b o : Nat) (w : World) (hm : l.length ≤ maxLen) (h0 : 0 < l.length) (h : At w b o (Lib.byteCells l)) (lo hi : Int) (n : Nat) (hn : n = 0 ∨ n = 1)
    (hl : leadF (b2 l[0]) = ((n : Int), lo, hi)) :
    Calls Tryz.prog 76 #[.slice (some ⟨b, o, none⟩) l.length cap] w fun e w' => e = .returned (.tuple #[.int .i64 (if n = 1 then b2 l[0] else 0xfffd), .int .i64 1, .bool (n == 1)]) ∧ Below w.heap.size w w' := by
  unfold maxLen at hm
  have hc0 := h 0 (by simpa [Lib.byteCells] using h0)
  simp only [Lib.byteCells, List.getElem_map, Nat.add_zero] at hc0
  have hb0 := b2_lt l[0]
  change w.cell? ⟨b, o, none⟩ = some (.int .u8 (b2 l[0])) at hc0
  obtain ⟨x0, hx0⟩ : ∃ x, x = b2 l[0] := ⟨_, rfl⟩
  rw [← hx0] at hc0 hb0 hl ⊢
  have cl := fun w => lead_any x0 w
  rw [hl] at cl
  simp only at cl
  have Hcl := Lib.hid cl; clear cl hl hx0
  obtain ⟨L, hL⟩ : ∃ L, L = l.length := ⟨_, rfl⟩
  rw [← hL] at hm h0 ⊢
  clear hL
  have _ := hm
  rcases hn with rfl | rfl
  all_goals go_enter Tryz.func76, Tryz.ntmps76
  all_goals go_wp2_with (go_at_call 107; refine (Hcl.out _).mono ?_; rintro e w' ⟨rfl, rfl⟩)
  all_goals go_ret3
  all_goals exact ⟨rfl, Below.refl _ _⟩

/-- Next, of a row of bytes that is not empty -/
theorem next_any (x : UInt8) (r : Bytes) (v : Value) (w : World) (B : Nat) (h : Sl B w v (Lib.byteCells (x :: r))) :
    Calls Tryz.prog 76 #[v] w fun e w' => e = .returned (.tuple #[.int .i64 (nextF (x :: r)).1, .int .i64 (nextF (x :: r)).2.1, .bool (nextF (x :: r)).2.2]) ∧ Below w.heap.size w w' := by
  obtain ⟨c, hc, hm, h⟩ := h
  rcases h with ⟨hn, _⟩ | ⟨b, o, _, rfl, ha⟩
  · simp [Lib.byteCells] at hn
  · rw [Lib.byteCells_length] at hc ⊢
    obtain ⟨hr, hlo1, hlo2, hhi1, hhi2⟩ := lead_range (b2 x)
    have hx : (x :: r)[0]'(by simp) = x := rfl
    rcases hr with hr | hr | hr | hr | hr
    · refine (next_small (x :: r) c b o w (by omega) (by simp) ha (leadF (b2 x)).2.1 (leadF (b2 x)).2.2 0 (.inl rfl) (by rw [hx]; exact triple_of (by rw [hr]; rfl))).mono fun e w' he => ⟨?_, he.2⟩
      rw [he.1]; simp [nextF, hr]
    · refine (next_small (x :: r) c b o w (by omega) (by simp) ha (leadF (b2 x)).2.1 (leadF (b2 x)).2.2 1 (.inr rfl) (by rw [hx]; exact triple_of (by rw [hr]; rfl))).mono fun e w' he => ⟨?_, he.2⟩
      rw [he.1]; simp [nextF, hr]
    · refine (next_core (x :: r) c b o w (by omega) (by simp) ha 2 (leadF (b2 x)).2.1 (leadF (b2 x)).2.2 (b2 x % 32) (by rw [hx]; exact triple_of (by rw [hr]; rfl)) ⟨hlo1, hlo2⟩ ⟨hhi1, hhi2⟩ (.inl ⟨rfl, rfl⟩)).mono fun e w' he => ⟨?_, he.2⟩
      rw [he.1]; simp [nextF, hr]
    · refine (next_core (x :: r) c b o w (by omega) (by simp) ha 3 (leadF (b2 x)).2.1 (leadF (b2 x)).2.2 (b2 x % 16) (by rw [hx]; exact triple_of (by rw [hr]; rfl)) ⟨hlo1, hlo2⟩ ⟨hhi1, hhi2⟩ (.inr (.inl ⟨rfl, rfl⟩))).mono fun e w' he => ⟨?_, he.2⟩
      rw [he.1]; simp [nextF, hr]
    · refine (next_core (x :: r) c b o w (by omega) (by simp) ha 4 (leadF (b2 x)).2.1 (leadF (b2 x)).2.2 (b2 x % 8) (by rw [hx]; exact triple_of (by rw [hr]; rfl)) ⟨hlo1, hlo2⟩ ⟨hhi1, hhi2⟩ (.inr (.inr ⟨rfl, rfl⟩))).mono fun e w' he => ⟨?_, he.2⟩
      rw [he.1]; simp [nextF, hr]

end Go.Proofs.YtgfklkfbccknoaaGreatDoor

/- The reference's Signs. -/
namespace Go.Proofs.YtgfklkfbccknoaaGreatDoor
open Go.RowKit
set_option maxRecDepth 10000

theorem nextGo_le : ∀ (r : Bytes) (m k : Nat) (c lo hi : Int), (k : Int) ≤ (nextGo r m k c lo hi).2.1 ∧ (nextGo r m k c lo hi).2.1 ≤ (k : Int) + r.length
  | _, 0, k, c, _, _ => by simp [nextGo]; omega
  | [], _ + 1, k, _, _, _ => by simp [nextGo]
  | x :: r, m + 1, k, c, lo, hi => by
    unfold nextGo
    split
    · simp; omega
    · have := nextGo_le r m (k + 1) (64 * c + b2 x - 0x80) 0x80 0xbf
      simp only [List.length_cons]
      omega
/-- how many bytes Next takes -/
def nextN (l : Bytes) : Nat := (nextF l).2.1.toNat
theorem nextF_n (x : UInt8) (r : Bytes) : (nextF (x :: r)).2.1 = (nextN (x :: r) : Int) ∧ 1 ≤ nextN (x :: r) ∧ nextN (x :: r) ≤ r.length + 1 := by
  have h : 1 ≤ (nextF (x :: r)).2.1 ∧ (nextF (x :: r)).2.1 ≤ 1 + r.length := by
    unfold nextF
    simp only
    split
    · simp; omega
    split
    · simp; omega
    split
    · have := nextGo_le r 1 1 (b2 x % 32) (leadF (b2 x)).2.1 (leadF (b2 x)).2.2; omega
    split
    · have := nextGo_le r 2 1 (b2 x % 16) (leadF (b2 x)).2.1 (leadF (b2 x)).2.2; omega
    · have := nextGo_le r 3 1 (b2 x % 8) (leadF (b2 x)).2.1 (leadF (b2 x)).2.2; omega
  unfold nextN
  omega

def signsF : Nat → Bytes → List Int
  | 0, _ => []
  | _, [] => []
  | f + 1, x :: r => (nextF (x :: r)).1 :: signsF f ((x :: r).drop (nextN (x :: r)))
/-- the signs of bytes, as the reference tells them -/
def signs (l : Bytes) : List Int := signsF l.length l
theorem signsF_cons (f : Nat) (x : UInt8) (r : Bytes) : signsF (f + 1) (x :: r) = (nextF (x :: r)).1 :: signsF f ((x :: r).drop (nextN (x :: r))) := rfl
theorem signsF_same : ∀ (f g : Nat) (l : Bytes), l.length ≤ f → l.length ≤ g → signsF f l = signsF g l
  | 0, g, l, h, _ => by
    obtain rfl : l = [] := List.eq_nil_of_length_eq_zero (by omega)
    cases g <;> rfl
  | f + 1, 0, l, _, h => by
    obtain rfl : l = [] := List.eq_nil_of_length_eq_zero (by omega)
    rfl
  | f + 1, g + 1, [], _, _ => rfl
  | f + 1, g + 1, x :: r, h, h' => by
    have hn := nextF_n x r
    rw [List.length_cons] at h h'
    have hd : ((x :: r).drop (nextN (x :: r))).length ≤ r.length := by rw [List.length_drop, List.length_cons]; omega
    rw [signsF_cons, signsF_cons, signsF_same f g _ (by omega) (by omega)]
theorem signs_nil : signs [] = [] := rfl
theorem signs_cons (x : UInt8) (r : Bytes) : signs (x :: r) = (nextF (x :: r)).1 :: signs ((x :: r).drop (nextN (x :: r))) := by
  have hn := nextF_n x r
  have hd : ((x :: r).drop (nextN (x :: r))).length ≤ r.length := by rw [List.length_drop, List.length_cons]; omega
  unfold signs
  rw [List.length_cons, signsF_cons, signsF_same r.length _ _ hd (Nat.le_refl _)]

theorem At.from_ {w : World} {b o k : Nat} {xs : List Value} (h : At w b o xs) : At w b (o + k) (xs.drop k) := fun j hj => by
  have hj' : k + j < xs.length := by simp at hj; omega
  have := h (k + j) hj'
  rw [Nat.add_assoc, this]
  simp
theorem At.from' {w : World} {b o o' k c : Nat} {l : Bytes} (h : At w b o (Lib.byteCells l)) (hl : l.length ≤ c) (ho : k < c → o' = o + k) : At w b o' (Lib.byteCells (l.drop k)) := by
  by_cases hk : k < c
  · rw [ho hk]
    have := h.from_ (k := k)
    rwa [show (Lib.byteCells l).drop k = Lib.byteCells (l.drop k) by simp [Lib.byteCells]] at this
  · intro j hj
    simp [Lib.byteCells] at hj
    omega
set_option maxHeartbeats 1000000 in
/-- the reference's Signs -/
theorem rsigns_any (s : ByteArray) (w : World) (hs : s.size ≤ 1000000) :
    Calls Tryz.prog 47 #[.string s] w fun e w' => RetRow w 3 (I64s (signs (ls s))) e w' := by
  obtain ⟨i0, hi0, hz0, hz1, hz2⟩ := info_parts i64_info
  obtain ⟨i8, hi8, hz8, hz81, hz82⟩ := info_parts u8_info
  have kb := fun W => run_bytes_of_string (P := Tryz.prog) W 9 37 5 s Tryz.underlying9 Tryz.underlying37 Tryz.underlying5
  obtain ⟨cp, hcp⟩ : ∃ cp, cp = grownCap w s.size 0 5 := ⟨_, rfl⟩
  have hcp1 : s.size ≤ cp := by rw [hcp]; exact grownCap_ge _ _ _ _
  have hcp2 : cp ≤ maxLen := by rw [hcp]; exact grownCap_le_maxLen _ _ _ _ (by unfold maxLen; omega)
  have kb' := kb w
  rw [← hcp] at kb'
  clear kb hcp
  obtain ⟨T, hT⟩ : ∃ T, T = signs (ls s) := ⟨_, rfl⟩
  rw [← hT]
  have HT := Lib.hid hT; clear hT
  go_enter Tryz.func47, Tryz.ntmps47
  go_wp2
  obtain ⟨hat, hbw, hsz⟩ := bytes_new w s cp 5 ((bytesRow s cp).size, (bytesRow s cp).size + 1)
  clear kb'
  go_loopw [3, 4] (fun b out wr => ∃ (l : Bytes) (o c : Nat) (acc : List Int), b = .slice (some ⟨w.heap.size, o, none⟩) l.length c ∧ l.length ≤ c ∧ c ≤ maxLen ∧ At wr w.heap.size o (Lib.byteCells l) ∧
      wr.ownsRow (w.heap.size + 1) 3 1 out acc.length (I64s acc) ∧ acc ++ signs l = T ∧ acc.length + l.length ≤ 1000000 ∧ w.heap.size < wr.heap.size ∧ Below w.heap.size w wr) (fun b _ _ => lenV b)
  case atStart => exact ⟨ls s, 0, cp, [], by rw [ls_length], by rw [ls_length]; exact hcp1, hcp2, hat, ⟨by simp, .inl ⟨rfl, rfl⟩⟩, by simpa using HT.out.symm, by simpa using hs, by omega, hbw⟩
  case round =>
    obtain ⟨l, o, c, acc, rfl, hlc, hcm, hA, hown, hacc, hlen, hwz, hbel⟩ := hrel
    clear hat hbw hsz
    have HA := Lib.hid hA; clear hA
    have HO := Lib.hid hown; clear hown
    have HB := Lib.hid hbel; clear hbel
    have HC := Lib.hid hacc; clear hacc
    cases l with
    | nil =>
      simp only [List.length_nil]
      go_wp2
      go_ret
      have e := HC.out
      rw [signs_nil, List.append_nil] at e
      have ho := HO.out
      rw [e] at ho
      exact RetRow.mk ho (by omega) HB.out
    | cons x r =>
      obtain ⟨c0, n0, ok0, hN, hn1, hn2⟩ : ∃ (c0 : Int) (n0 : Nat) (ok0 : Bool), nextF (x :: r) = (c0, (n0 : Int), ok0) ∧ 1 ≤ n0 ∧ n0 ≤ r.length + 1 :=
        ⟨_, nextN (x :: r), _, by rw [← (nextF_n x r).1], (nextF_n x r).2⟩
      have hnx := fun W v B h => next_any x r v W B h
      rw [hN] at hnx
      simp only at hnx
      have HN := Lib.hid hnx; clear hnx
      have hacc2 := HC.out
      rw [signs_cons, show nextN (x :: r) = n0 by unfold nextN; rw [hN]; rfl, hN] at hacc2
      simp only at hacc2
      have HC2 := Lib.hid hacc2; clear hacc2 hN
      obtain ⟨L, hL⟩ : ∃ L, L = (x :: r).length := ⟨_, rfl⟩
      have hLr : L = r.length + 1 := hL
      rw [← hL] at hlc hlen ⊢
      have HL := Lib.hid hL; clear hL
      have hn2' : n0 ≤ L := by omega
      have hL0 : 0 < L := by omega
      have hsl : Sl (w.heap.size + 1) wr (.slice (some ⟨w.heap.size, o, none⟩) L c) (Lib.byteCells (x :: r)) :=
        ⟨c, by rw [Lib.byteCells_length, ← HL.out]; exact hlc, hcm, .inr ⟨_, o, by omega, by rw [Lib.byteCells_length, ← HL.out], HA.out⟩⟩
      have HS := Lib.hid hsl; clear hsl
      obtain ⟨o', ho', hcut⟩ := slice_from (P := Tryz.prog) Tryz.underlying37 hi8 hz81 w.heap.size o L c n0 hn2' hlc
      have HO' := Lib.hid ho'; clear ho'
      clear hLr hn2
      have hbase : ∀ w1 : World, Below wr.heap.size wr w1 → w.heap.size + 1 ≤ w1.heap.size := fun w1 h => by have := h.size; omega
      go_wp2_with (first | (go_at_call 76; refine (HN.out _ _ _ HS.out).mono ?_; rintro e w1 ⟨rfl, hb1⟩; have HB1 := Lib.hid hb1; clear hb1) | (at_builtin; go_must (refine push1 rfl (.tmp 19) (.tmp 21) _ rfl (w.heap.size + 1) 3 i0 _ 8 Tryz.underlying64 hi0 hz0 hz1 hz2 rfl _ _ acc.length (I64s acc) rfl (own_below HO.out HB1.out) (.int .i64 c0) rfl rfl (by omega) (by omega) (hbase _ HB1.out) ?_); intro v2 w2 hown2 hw2 hb2; have HO2 := Lib.hid hown2; clear hown2; have HB2 := Lib.hid hb2; clear hb2))
      go_roundw
      case rel =>
        have hb1 := HB1.out
        have hb2 := HB2.out
        have hL := HL.out
        refine ⟨(x :: r).drop n0, o', c - n0, acc ++ [c0], by rw [List.length_drop, ← hL], by rw [List.length_drop, ← hL]; omega, by omega, ?_, ?_, ?_, ?_, by have := hb1.size; omega, ?_⟩
        · exact At.from' (((HA.out).keep (hb1.block _ (by omega))).keep (hb2.block _ (by omega))) (by rw [← hL]; exact hlc) HO'.out
        · have := HO2.out
          rw [List.length_append, List.length_singleton]
          simpa [I64s] using this
        · rw [List.append_assoc]; exact HC2.out
        · rw [List.length_append, List.length_singleton, List.length_drop, ← hL]; omega
        · exact (HB.out.trans (hb1.mono (by omega))).trans (hb2.mono (by omega))
      case measure => simp [lenV]; omega
end Go.Proofs.YtgfklkfbccknoaaGreatDoor

/- The reference's Join, Decode and Right. -/
namespace Go.Proofs.YtgfklkfbccknoaaGreatDoor
open Go.RowKit
set_option maxRecDepth 10000

/-- the bytes of signs, one behind the other -/
def joinF (l : List Int) : Bytes := l.flatMap enc
theorem joinF_cons (c : Int) (l : List Int) : joinF (c :: l) = enc c ++ joinF l := rfl
theorem joinF_append (a b : List Int) : joinF (a ++ b) = joinF a ++ joinF b := by simp [joinF]
theorem enc_len (c : Int) : 1 ≤ (enc c).length ∧ (enc c).length ≤ 4 := by
  by_cases hb : c < 0 ∨ 0x10ffff < c ∨ (0xd800 ≤ c ∧ c ≤ 0xdfff)
  · rw [enc_bad hb]; simp
  by_cases h1 : c < 0x80
  · rw [enc_1 (by omega) h1]; simp
  by_cases h2 : c < 0x800
  · rw [enc_2 (by omega) h2]; simp
  by_cases h3 : c < 0x10000
  · rw [enc_3 (by omega) h3 (by omega)]; simp
  · rw [enc_4 (by omega) (by omega)]; simp
theorem joinF_len (l : List Int) : (joinF l).length ≤ 4 * l.length := by
  induction l with
  | nil => simp [joinF]
  | cons c r ih => rw [joinF_cons, List.length_append, List.length_cons]; have := enc_len c; omega

set_option maxHeartbeats 1000000 in
theorem join_core (xs : List Int) (b o c : Nat) (w : World) (hb : b < w.heap.size) (hl : xs.length ≤ 1000000) (hat : At w b o (I64s xs)) :
    Calls Tryz.prog 78 #[.slice (some ⟨b, o, none⟩) xs.length c] w fun e w' => RetS w (joinF xs) e w' := by
  obtain ⟨i8, hi8, hz8, hz81, hz82⟩ := info_parts u8_info
  obtain ⟨L, hL⟩ : ∃ L, L = xs.length := ⟨_, rfl⟩
  rw [← hL] at hl ⊢
  have HL := Lib.hid hL; clear hL
  obtain ⟨T, hT⟩ : ∃ T, T = joinF xs := ⟨_, rfl⟩
  rw [← hT]
  have HT := Lib.hid hT; clear hT
  have HAT := Lib.hid hat; clear hat
  go_enter Tryz.func78, Tryz.ntmps78
  go_wp2
  go_loopw [3, 4] (fun out i wr => ∃ (k : Nat), k ≤ L ∧ i = .int .i64 k ∧ wr.ownsRow w.heap.size 5 1 out (joinF (xs.take k)).length (Lib.byteCells (joinF (xs.take k))) ∧ w.heap.size ≤ wr.heap.size ∧ Below w.heap.size w wr) (fun _ i _ => L - (intOf i).toNat)
  case atStart => exact ⟨0, by omega, rfl, ⟨by simp [joinF, Lib.byteCells], .inl ⟨rfl, by simp [joinF]⟩⟩, Nat.le_refl _, Below.refl _ _⟩
  case round =>
    obtain ⟨k, hk, rfl, hown, hwz, hbel⟩ := hrel
    have HO := Lib.hid hown; clear hown
    have HB := Lib.hid hbel; clear hbel
    by_cases hlt : k < L
    · have hx : k < xs.length := by have := HL.out; omega
      have hcell : wr.cell? ⟨b, o + k, none⟩ = some (.int .i64 xs[k]) := by
        have h1 := HAT.out k (by simpa using hx)
        have h2 := HB.out.cell (p := ⟨b, o + k, none⟩) hb
        rw [h2, h1]; simp
      have hjl := joinF_len (xs.take k)
      have hel := enc_len xs[k]
      have hkl : (xs.take k).length ≤ k := List.length_take_le _ _
      have hbase : ∀ w1 : World, Below wr.heap.size wr w1 → w.heap.size ≤ w1.heap.size := fun w1 h => by have := h.size; omega
      obtain ⟨x, hxx⟩ : ∃ x, x = xs[k] := ⟨_, rfl⟩
      rw [← hxx] at hcell hel
      have HX := Lib.hid hxx; clear hxx
      go_wp2_with (first | (go_at_call 80; refine (rsign_any _ _).mono ?_; rintro e w1 ⟨rfl, hb1⟩; have HB1 := Lib.hid hb1; clear hb1) | (at_builtin; go_must (refine pushS rfl (.tmp 11) (.tmp 16) _ _ rfl w.heap.size 5 i8 Tryz.underlying37 Tryz.underlying9 hi8 hz8 hz81 hz82 _ _ _ (joinF (xs.take k)) rfl (own_below HO.out HB1.out) (enc x) rfl (by omega) (hbase _ HB1.out) ?_); intro v2 w2 hown2 hw2 hb2; have HO2 := Lib.hid hown2; clear hown2; have HB2 := Lib.hid hb2; clear hb2))
      go_roundw
      case rel =>
        have hb1 := HB1.out
        have hb2 := HB2.out
        have e1 : joinF (xs.take (k + 1)) = joinF (xs.take k) ++ enc x := by
          rw [List.take_succ_eq_append_getElem hx, joinF_append, HX.out]; simp [joinF]
        have ho2 := HO2.out
        rw [← e1, show (joinF (xs.take k)).length + (enc x).length = (joinF (xs.take (k + 1))).length by rw [e1, List.length_append]] at ho2
        exact ⟨k + 1, by omega, by go_num, ho2, by have := hb1.size; omega, (HB.out.trans (hb1.mono (by omega))).trans hb2⟩
      case measure => simp [intOf]; omega
    · have hown := HO.out
      have e1 : xs.take k = xs := List.take_of_length_le (by have := HL.out; omega)
      rw [e1] at hown
      have kc := conv_own Tryz.underlying37 Tryz.underlying5 Tryz.underlying9 hown
      have HK := Lib.hid hown; clear hown e1
      go_wp2
      go_ret
      exact ⟨by rw [HT.out]; rfl, HB.out⟩

/-- Join, of a row of numbers -/
theorem join_any (xs : List Int) (v : Value) (w : World) (h : Sl w.heap.size w v (I64s xs)) (hl : xs.length ≤ 1000000) :
    Calls Tryz.prog 78 #[v] w fun e w' => RetS w (joinF xs) e w' := by
  obtain ⟨c, hc, hm, h⟩ := h
  rcases h with ⟨hn, a, rfl⟩ | ⟨b, o, hb, rfl, ha⟩
  · obtain rfl : xs = [] := by simpa using hn
    have kn := run_convert_bytes_nil (P := Tryz.prog) w 37 5 Tryz.underlying37 Tryz.underlying5 0 0 9 Tryz.underlying9
    go_enter Tryz.func78, Tryz.ntmps78
    go_wp2
    refine wp_loop_rounds 1 ?_
    rw [rounds_succ]
    go_wp2
    go_ret
    exact ⟨rfl, Below.refl _ _⟩
  · rw [show (I64s xs).length = xs.length by simp]
    exact join_core xs b o c w hb hl ha

theorem signs_len : ∀ (n : Nat) (l : Bytes), l.length ≤ n → (signs l).length ≤ l.length
  | _, [], _ => by simp [signs_nil]
  | 0, x :: r, h => by simp at h
  | n + 1, x :: r, h => by
    have hn := nextF_n x r
    rw [List.length_cons] at h
    have hd : ((x :: r).drop (nextN (x :: r))).length ≤ r.length := by rw [List.length_drop, List.length_cons]; omega
    have := signs_len n ((x :: r).drop (nextN (x :: r))) (by omega)
    rw [signs_cons, List.length_cons, List.length_cons]
    omega

/-- what the reference decodes -/
def rdec (l : Bytes) : Bytes := joinF (signs l)
theorem rdec_len (l : Bytes) : (rdec l).length ≤ 4 * l.length := by
  have := joinF_len (signs l)
  have := signs_len _ l (Nat.le_refl _)
  unfold rdec; omega

end Go.Proofs.YtgfklkfbccknoaaGreatDoor

/- text's beginning: how long the longest beginning of a sign's bytes is. -/
namespace Go.Proofs.YtgfklkfbccknoaaGreatDoor
open Go.RowKit
set_option maxRecDepth 10000

/-- m bytes more may stand of a sign of which k stand; the next one lies from lo to hi -/
def begGo : Bytes → Nat → Nat → Int → Int → Nat
  | _, 0, k, _, _ => k
  | [], _ + 1, k, _, _ => k
  | x :: r, m + 1, k, lo, hi => if lo ≤ b2 x ∧ b2 x ≤ hi then begGo r m (k + 1) 0x80 0xbf else k
/-- how long the longest beginning of a sign's bytes is that stands at the first place -/
def begF : Bytes → Nat
  | [] => 0
  | x :: r => begGo r ((behindF (b2 x)).2.2.toNat - 1) 1 (behindF (b2 x)).1 (behindF (b2 x)).2.1

theorem behind_range (c : Int) : (1 ≤ (behindF c).2.2 ∧ (behindF c).2.2 ≤ 4) ∧ 0 ≤ (behindF c).1 ∧ (behindF c).1 < 256 ∧ 0 ≤ (behindF c).2.1 ∧ (behindF c).2.1 < 256 := by
  unfold behindF
  repeat (first | split | (refine ⟨⟨?_, ?_⟩, ?_, ?_, ?_, ?_⟩ <;> simp))
theorem begGo_le : ∀ (r : Bytes) (m k : Nat) (lo hi : Int), k ≤ begGo r m k lo hi ∧ begGo r m k lo hi ≤ k + r.length
  | _, 0, k, _, _ => by simp [begGo]
  | [], _ + 1, k, _, _ => by simp [begGo]
  | x :: r, m + 1, k, lo, hi => by
    unfold begGo
    split
    · have := begGo_le r m (k + 1) 0x80 0xbf
      simp only [List.length_cons]
      omega
    · simp
theorem begF_le (x : UInt8) (r : Bytes) : 1 ≤ begF (x :: r) ∧ begF (x :: r) ≤ r.length + 1 := by
  have := begGo_le r ((behindF (b2 x)).2.2.toNat - 1) 1 (behindF (b2 x)).1 (behindF (b2 x)).2.1
  simp only [begF]
  omega
theorem begGo_end {l : Bytes} {k m : Nat} {lo hi : Int} (h : l.length ≤ k) : begGo (l.drop k) (m + 1) k lo hi = k := by
  rw [List.drop_eq_nil_of_le h]; rfl
theorem begGo_bad {l : Bytes} {k m : Nat} {lo hi : Int} (h : k < l.length) (hb : ¬ (lo ≤ b2 l[k] ∧ b2 l[k] ≤ hi)) : begGo (l.drop k) (m + 1) k lo hi = k := by
  rw [List.drop_eq_getElem_cons h]; simp only [begGo]; rw [if_neg hb]
theorem begGo_ok {l : Bytes} {k m : Nat} {lo hi : Int} (h : k < l.length) (hb : lo ≤ b2 l[k] ∧ b2 l[k] ≤ hi) : begGo (l.drop k) (m + 1) k lo hi = begGo (l.drop (k + 1)) m (k + 1) 0x80 0xbf := by
  rw [List.drop_eq_getElem_cons h]; simp only [begGo]; rw [if_pos hb]

set_option maxHeartbeats 1000000 in
theorem beginning_any (l : Bytes) (cap b o : Nat) (w : World) (hm : l.length ≤ maxLen) (h0 : 0 < l.length) (h : At w b o (Lib.byteCells l)) :
    Calls Tryz.prog 123 #[.slice (some ⟨b, o, none⟩) l.length cap] w fun e w' => e = .returned (.int .i64 (begF l)) ∧ w = w' := by
  unfold maxLen at hm
  have H : ∀ k (hk : k < l.length), w.cell? ⟨b, o + k, none⟩ = some (.int .u8 (b2 l[k])) := fun k hk => by
    have := h k (by simpa [Lib.byteCells] using hk)
    simpa [Lib.byteCells, b2] using this
  have hc0 := H 0 h0
  simp only [Nat.add_zero] at hc0
  have hbeg : begF l = begGo (l.drop 1) ((behindF (b2 l[0])).2.2.toNat - 1) 1 (behindF (b2 l[0])).1 (behindF (b2 l[0])).2.1 := by
    cases l with
    | nil => simp at h0
    | cons x r => rfl
  obtain ⟨⟨hs1, hs2⟩, hl1, hl2, hh1, hh2⟩ := behind_range (b2 l[0])
  have cb := fun w => behind_any (b2 l[0]) w
  obtain ⟨lo, hi, sz, hB⟩ : ∃ lo hi sz, behindF (b2 l[0]) = (lo, hi, sz) := ⟨_, _, _, rfl⟩
  rw [hB] at hbeg hs1 hs2 hl1 hl2 hh1 hh2 cb
  simp only at hbeg hs1 hs2 hl1 hl2 hh1 hh2 cb
  clear hB
  obtain ⟨n, rfl⟩ := Int.eq_ofNat_of_zero_le (show 0 ≤ sz by omega)
  simp only [Int.toNat_natCast] at hbeg hs1 hs2 cb
  have hs1' : 1 ≤ n := by omega
  have hs2' : n ≤ 4 := by omega
  obtain ⟨x0, hx0⟩ : ∃ x, x = b2 l[0] := ⟨_, rfl⟩
  rw [← hx0] at hc0 cb
  clear hx0
  obtain ⟨L, hL⟩ : ∃ L, L = l.length := ⟨_, rfl⟩
  rw [← hL] at hm h0 ⊢
  have HLL := Lib.hid hL; clear hL
  obtain ⟨r, hr⟩ : ∃ r, r = begF l := ⟨_, rfl⟩
  rw [← hr] at hbeg ⊢
  have HR := Lib.hid hbeg; clear hbeg hr
  have HH := Lib.hid H; clear H h
  have Hcl := Lib.hid cb; clear cb
  go_enter Tryz.func123, Tryz.ntmps123
  go_wp2_with (go_at_call 147; refine (Hcl.out _).mono ?_; rintro e w' ⟨rfl, rfl⟩)
  go_loop [3, 4, 6] (fun lo' hi' i => ∃ (k : Nat) (l1 h1 : Int), 1 ≤ k ∧ k ≤ n ∧ k ≤ L ∧ i = .int .i64 k ∧ lo' = .int .u8 l1 ∧ hi' = .int .u8 h1 ∧ (0 ≤ l1 ∧ l1 < 256) ∧ (0 ≤ h1 ∧ h1 < 256) ∧ begGo (l.drop k) (n - k) k l1 h1 = r) (fun _ _ i => n - (intOf i).toNat)
  case atStart => exact ⟨1, lo, hi, by omega, by omega, by omega, rfl, rfl, rfl, ⟨hl1, hl2⟩, ⟨hh1, hh2⟩, HR.out.symm⟩
  case round =>
    obtain ⟨k, l1, h1, hk1, hk, hkL, rfl, rfl, rfl, ⟨hl1, hl2⟩, ⟨hh1, hh2⟩, hg⟩ := hrel
    have HG := Lib.hid hg; clear hg
    by_cases hkn : k < n
    · by_cases hkl : k < L
      · have hx : k < l.length := by have := HLL.out; omega
        have hcell := HH.out k hx
        obtain ⟨y, hy⟩ : ∃ y, y = b2 l[k] := ⟨_, rfl⟩
        rw [← hy] at hcell
        obtain ⟨hy1, hy2⟩ : 0 ≤ y ∧ y < 256 := by rw [hy]; exact b2_lt _
        have HY := Lib.hid hy; clear hy
        by_cases hb1 : y < l1
        · have hfin := begGo_bad (m := n - k - 1) (lo := l1) (hi := h1) hx (by rw [← HY.out]; omega)
          rw [show n - k - 1 + 1 = n - k by omega, HG.out] at hfin
          have HF := Lib.hid hfin; clear hfin
          go_wp2
          go_ret
          exact ⟨ret1_int (by rw [HF.out]), rfl⟩
        · by_cases hb2' : h1 < y
          · have hfin := begGo_bad (m := n - k - 1) (lo := l1) (hi := h1) hx (by rw [← HY.out]; omega)
            rw [show n - k - 1 + 1 = n - k by omega, HG.out] at hfin
            have HF := Lib.hid hfin; clear hfin
            go_wp2
            go_ret
            exact ⟨ret1_int (by rw [HF.out]), rfl⟩
          · have hfin := begGo_ok (m := n - k - 1) (lo := l1) (hi := h1) hx (by rw [← HY.out]; omega)
            rw [show n - k - 1 + 1 = n - k by omega, HG.out, show n - k - 1 = n - (k + 1) by omega] at hfin
            have HF := Lib.hid hfin; clear hfin
            go_wp2
            go_round
            case rel => exact ⟨k + 1, _, _, by omega, by omega, by omega, by go_num, rfl, rfl, by omega, by omega, HF.out.symm⟩
            case measure => simp [intOf]; omega
      · have hfin := begGo_end (l := l) (k := k) (m := n - k - 1) (lo := l1) (hi := h1) (by have := HLL.out; omega)
        rw [show n - k - 1 + 1 = n - k by omega, HG.out] at hfin
        have HF := Lib.hid hfin; clear hfin
        go_wp2
        go_ret
        exact ⟨ret1_int (by rw [HF.out]), rfl⟩
    · obtain rfl : k = n := by omega
      have hfin : r = k := by
        have := HG.out
        rw [← this]
        simp [begGo]
      have HF := Lib.hid hfin; clear hfin
      go_wp2
      go_ret
      exact ⟨ret1_int (by rw [HF.out]), rfl⟩
end Go.Proofs.YtgfklkfbccknoaaGreatDoor
