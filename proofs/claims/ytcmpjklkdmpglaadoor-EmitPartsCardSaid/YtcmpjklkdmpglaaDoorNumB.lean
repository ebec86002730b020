/- The library's numerals: base 10, base 16 (below 65536). -/
import Derived.Test.YtcmpjklkdmpglaaDoorNumA
import Derived.Test.YtcmpjklkdmpglaaDoorShelf
import Derived.Test.YtcmpjklkdmpglaaDoorArr
import Derived.Shelf.Strconv.AppendUint10
import Derived.Shelf.Strconv.Itoa4
import Derived.Lib.SmallJoins
import Derived.Laws.BitsLemmas
import Derived.Deep.DeepCutAuto
namespace Go.Proofs.YtcmpjklkdmpglaaDoor
open Go.RowKit
set_option maxRecDepth 10000

/-- what the numerals' tables read as -/
structure NE (w : World) : Prop where
  tab : Lib.TabIs Tryd.prog w "internal/strconv.uint64pow10" .u64 Lib.pow10Tab
  tz : w.cell? ⟨2, 15, none⟩ = some (.int .u8 4)
theorem NE.below {w w' : World} (h : NE w) (hb : Below w.heap.size w w') : NE w' :=
  ⟨Lib.tabBelow_of_tabIs h.tab w' hb, by
    have h2 := h.tz
    have hlt : 2 < w.heap.size := by
      rcases Nat.lt_or_ge 2 w.heap.size with hlt | hge
      · exact hlt
      · simp [World.cell?, Array.getElem?_eq_none hge] at h2
    exact (hb.cell (p := ⟨2, 15, none⟩) hlt).trans h2⟩

theorem tz64_16 (w : World) (h : NE w) : Calls Tryd.prog 61 #[.int .u64 16] w fun e w' => e = .returned (.int .i64 4) ∧ w' = w := by
  have htz := h.tz
  clear h
  have z1 : IntKind.u64.wrap (-16) = 18446744073709551600 := by decide +kernel
  have z2 : bits BinOp.and IntKind.u64 16 18446744073709551600 = 16 := by decide +kernel
  have z3 : IntKind.u64.wrap (16 * 285870213051353865) = 4573923408821661840 := by decide +kernel
  have z4 : (4573923408821661840 : Int) / 288230376151711744 = 15 := by decide +kernel
  go_enter Tryd.func61, Tryd.ntmps61
  go_wp2_with fail
  go_ret
  exact ⟨rfl, rfl⟩
theorem tz_16 (w : World) (h : NE w) : Calls Tryd.prog 59 #[.int .u64 16] w fun e w' => e = .returned (.int .i64 4) ∧ w' = w := by
  have htz := tz64_16 w h
  have HT := Lib.hid htz; clear htz
  go_enter Tryd.func59, Tryd.ntmps59
  go_wp2_with (first | (go_at_call 61; refine HT.out.mono ?_; rintro e w2 ⟨rfl, rfl⟩) | fail)
  go_ret
  exact ⟨rfl, rfl⟩
theorem pow2_16 (w : World) : Calls Tryd.prog 58 #[.int .i64 16] w fun e w' => e = .returned (.bool true) ∧ w' = w := by
  have z1 : bits BinOp.and IntKind.i64 16 15 = 0 := by decide +kernel
  go_enter Tryd.func58, Tryd.ntmps58
  go_wp2_with fail
  go_ret
  exact ⟨rfl, rfl⟩
/-- the digits of base 16 -/
def hexd (n : Nat) : UInt8 := UInt8.ofNat (if n < 10 then 48 + n else 87 + n)
def hexF (u : Nat) : Bytes := if h : u < 16 then [hexd u] else hexF (u / 16) ++ [hexd (u % 16)]
termination_by u
decreasing_by omega
theorem hex_small {u : Nat} (h : u < 16) : hexF u = [hexd u] := by rw [hexF, dif_pos h]
theorem hex_big {u : Nat} (h : ¬ u < 16) : hexF u = hexF (u / 16) ++ [hexd (u % 16)] := by rw [hexF, dif_neg h]
def Z65 : Array Value := Array.replicate 65 (.int .u8 0)
theorem all65 (w : World) : (Instr.alloc 81 true (Value.tuple #[])).run Tryd.prog w = .ok (.pointer (some ⟨w.heap.size, 0, none⟩)) (w.alloc (.cells Z65 81)) := by kernel_rfl
/-- the block of 65 places behind j digits -/
structure D65 (w : World) (b : Nat) (l : Bytes) (wr : World) : Prop where
  blk : ∃ c, wr.heap[b]? = some (.cells c 81 (0, 0)) ∧ c.size = 65 ∧ ∀ t (h : t < l.length), c[65 - l.length + t]? = some (.int .u8 (b2 l[t]))
  bel : Below w.heap.size w wr
theorem D65.fresh (w : World) : D65 w w.heap.size [] (w.alloc (.cells Z65 81)) :=
  ⟨⟨_, heap_alloc_new w _, by simp [Z65], fun t h => by simp at h⟩, (Below.refl _ _).alloc (Nat.le_refl _) _⟩
theorem D65.cell {w wr : World} {b : Nat} {l : Bytes} (h : D65 w b l wr) (i : Nat) (hi : i < 65) : (∃ v, wr.cell? ⟨b, i, none⟩ = some v) ∧ wr.frozen? ⟨b, i, none⟩ = false := by
  obtain ⟨⟨c, h1, h2, _⟩, _⟩ := h
  refine ⟨⟨c[i], ?_⟩, Go.Joins.unfrozen_of_block h1 i⟩
  rw [Go.Joins.cell_of_block h1]
  simp [h2, hi]
theorem D65.put {w wr : World} {b : Nat} {l : Bytes} (h : D65 w b l wr) (hb : w.heap.size ≤ b) (x : UInt8) (hl : l.length < 65) (i : Nat) (hi : i = 64 - l.length) : D65 w b (x :: l) (wr.setCell ⟨b, i, none⟩ (.int .u8 (b2 x))) := by
  obtain ⟨⟨c, h1, h2, h3⟩, h4⟩ := h
  subst hi
  refine ⟨⟨_, Go.Joins.block_setCell h1 _, by simp [h2], fun t ht => ?_⟩, h4.setCell hb _⟩
  rw [Array.getElem?_setIfInBounds]
  simp only [List.length_cons] at ht ⊢
  cases t with
  | zero =>
    rw [if_pos (by omega), if_pos (by omega)]
    rfl
  | succ t =>
    rw [if_neg (by omega)]
    have := h3 t (by omega)
    rw [show 65 - (l.length + 1) + (t + 1) = 65 - l.length + t by omega, this]
    rfl
theorem D65.at {w wr : World} {b : Nat} {l : Bytes} (h : D65 w b l wr) (hl : l.length ≤ 65) : At wr b (65 - l.length) (Lib.byteCells l) := by
  obtain ⟨⟨c, h1, h2, h3⟩, _⟩ := h
  intro j hj
  have hj' : j < l.length := by simpa [Lib.byteCells] using hj
  rw [Go.Joins.cell_of_block h1, h3 j hj']
  simp [Lib.byteCells, b2]
theorem mask15 (v : Nat) (hv : v < 65536) : bits BinOp.and IntKind.u64 (v : Int) 15 = ((v % 16 : Nat) : Int) := by
  have h := bits_mask .u64 63 (by decide) (fun n h0 h1 => by rw [IntKind.wrap_u64]; omega) 4 (by decide) (v : Int) (by omega) (by omega)
  have e : ((2 : Int) ^ 4 - 1) = 15 := by decide
  have e2 : ((2 : Int) ^ 4) = 16 := by decide
  rw [e, e2] at h
  rw [h]
  omega
theorem digit36 : ∀ k : Fin 16, ((⟨#[48, 49, 50, 51, 52, 53, 54, 55, 56, 57, 97, 98, 99, 100, 101, 102, 103, 104, 105, 106, 107, 108, 109, 110, 111, 112, 113, 114, 115, 116, 117, 118, 119, 120, 121, 122]⟩ : ByteArray)[k.val]'(by have := k.isLt; show k.val < 36; omega)) = hexd k.val := by decide +kernel

set_option maxHeartbeats 8000000 in
theorem fbits_any (u : Nat) (hu : u < 65536) (sv : Value) (n : Nat) (l : Bytes) (B : Nat) (w : World) (hE : NE w) (hB : B ≤ w.heap.size) (hown : w.ownsRow B 5 1 sv n (Lib.byteCells l)) (hlim : n ≤ 1000000) :
    Calls Tryd.prog 52 #[sv, .int .u64 u, .int .i64 16, .bool false, .bool true] w fun e w' => ∃ v' s, e = .returned (.tuple #[v', s]) ∧ w'.ownsRow B 5 1 v' (n + (hexF u).length) (Lib.byteCells (l ++ hexF u)) ∧ Below B w w' := by
  obtain ⟨i0, hi0, hz0, hz1, hz2⟩ := info_parts u8_info
  have htz := fun W (h : NE W) => tz_16 W h
  have HTZ := Lib.hid htz; clear htz
  have HP2 := Lib.hid (fun W => pow2_16 W)
  have HE := Lib.hid hE; clear hE
  have HO := Lib.hid hown; clear hown
  go_enter Tryd.func52, Tryd.ntmps52
  go_wp2_with (first
    | (refine alloc_to rfl 81 rfl _ _ (all65 _) ?_)
    | (go_at_call 58; refine (HP2.out _).mono ?_; rintro e w2 ⟨rfl, hw2⟩; subst hw2)
    | (go_at_call 59; refine (HTZ.out _ (HE.out.below ((Below.refl _ _).alloc (Nat.le_refl _) _))).mono ?_; rintro e w2 ⟨rfl, hw2⟩; subst hw2)
    | fail)
  obtain ⟨b, hb⟩ : ∃ b, b = w.heap.size := ⟨_, rfl⟩
  rw [← hb]
  have hD0 := D65.fresh w
  rw [← hb] at hD0
  have HB := Lib.hid hb; clear hb
  have HD0 := Lib.hid hD0; clear hD0
  go_loopw [1, 13] (fun uv iv wr => ∃ (v : Nat) (t : Bytes), uv = .int .u64 v ∧ iv = .int .i64 (65 - t.length : Nat) ∧ Hid (hexF v ++ t = hexF u) ∧ Hid (t.length ≤ 3 ∧ v < 16 ^ (4 - t.length)) ∧ Hid (D65 w b t wr)) (fun uv _ _ => (intOf uv).toNat)
  case atStart => exact ⟨u, [], rfl, rfl, List.append_nil _, ⟨by simp, by simpa using hu⟩, HD0.out⟩
  case round =>
    obtain ⟨v, t, rfl, rfl, hx, hl, hd⟩ := hrel
    obtain ⟨hl1, hl2⟩ := hl.out
    have hv : v < 65536 := Nat.lt_of_lt_of_le hl2 (Nat.pow_le_pow_right (n := 16) (by omega) (show 4 - t.length ≤ 4 by omega))
    obtain ⟨I, hI⟩ : ∃ I : Int, I = ((65 - t.length : Nat) : Int) := ⟨_, rfl⟩
    obtain ⟨J, hJ⟩ : ∃ J : Nat, J = 64 - t.length := ⟨_, rfl⟩
    have hIJ : I - 1 = (J : Int) := by omega
    have hJb : J < 65 := by omega
    have hIb : 1 ≤ I ∧ I ≤ 65 := by omega
    obtain ⟨⟨v0, c1⟩, f1⟩ := hd.out.cell J hJb
    rw [← hI]
    have HI := Lib.hid hI; clear hI
    have HJ := Lib.hid hJ; clear hJ hl1 hl2
    by_cases h16 : (16 : Int) ≤ v
    · obtain ⟨r, hr⟩ : ∃ r : Nat, r = v % 16 := ⟨_, rfl⟩
      have hand : bits BinOp.and IntKind.u64 (v : Int) 15 = (r : Int) := by rw [mask15 v hv, hr]
      have hr16 : r < 16 := by omega
      have HR := Lib.hid hr; clear hr
      go_wp2_with fail
      go_roundw
      case rel =>
        have hd2 := hd.out.put (by have := HB.out; omega) (hexd r) (by have := hl.out; omega) J HJ.out
        refine ⟨v / 16, hexd r :: t, by simp, ?_, ?_, ?_, ?_⟩
        · rw [List.length_cons, show 65 - (t.length + 1) = J by have := HJ.out; omega]
        · show hexF (v / 16) ++ hexd r :: t = hexF u
          rw [← hx.out, hex_big (show ¬ v < 16 by omega), HR.out]
          simp
        · have hl2 := hl.out.2
          have h3 : t.length ≤ 2 := by
            rcases Nat.lt_or_ge t.length 3 with h | h
            · omega
            · rw [show 4 - t.length = 1 by have := hl.out.1; omega] at hl2
              omega
          refine ⟨by rw [List.length_cons]; omega, ?_⟩
          rw [List.length_cons, show 4 - t.length = (4 - (t.length + 1)) + 1 by omega, Nat.pow_succ] at *
          omega
        · have e := digit36 ⟨r, hr16⟩
          simp only at e
          rw [e]
          exact hd2
      case measure => simp [intOf]; omega
    · have hv16 : v < 16 := by omega
      have hsl : ∀ W, (Instr.sliceAt 81 (.pointer (some ⟨b, 0, none⟩)) (some (.int .i64 (J : Int))) none none).run Tryd.prog W = .ok (.slice (some ⟨b, J, none⟩) (65 - J) (65 - J)) W := fun W => by
        rw [run_sliceAt_array_l W 81 ⟨b, 0, none⟩ (by simp [Program.arrayLen, Program.elem, Tryd.underlying81]) .i64 (J : Int) (by omega) (by simp [Program.arrayLen, Tryd.underlying81]; omega)]
        have he : Tryd.prog.elem 81 = 5 := by simp [Program.elem, Tryd.underlying81]
        have hal : Tryd.prog.arrayLen 81 = 65 := by simp [Program.arrayLen, Tryd.underlying81]
        simp [sizeOf, typeInfo, he, hal, hi0, hz1, slicedAt, sliced, addr_add]
        omega
      have hd2 := hd.out.put (by have := HB.out; omega) (hexd v) (by have := hl.out; omega) J HJ.out
      have hD : hexd v :: t = hexF u := by have := hx.out; rw [hex_small hv16] at this; exact this
      have hDl : 65 - J = (hexF u).length := by rw [← hD, List.length_cons]; have := HJ.out; have := hl.out; omega
      have hDm : (hexF u).length ≤ 4 := by rw [← hD, List.length_cons]; have := hl.out; omega
      have hat := hd2.at (by rw [List.length_cons]; have := hl.out; omega)
      rw [hD] at hd2 hat
      rw [show 65 - (hexF u).length = J by omega] at hat
      have e36 := digit36 ⟨v, hv16⟩
      simp only at e36
      rw [← e36] at hd2 hat
      rw [hDl] at hsl
      obtain ⟨D, hDD⟩ : ∃ D, D = hexF u := ⟨_, rfl⟩
      rw [← hDD] at hd2 hat hsl hDl hDm ⊢
      have HDD := Lib.hid hDD
      clear hDD hD e36
      have hbel := hd2.bel
      have HO2 := Lib.hid (HO.out.kept (row := none) ⟨hbel.os, hbel.tape, hbel.output, hbel.size, fun k hk _ => hbel.block k hk⟩ (by cases hv : sv.ownBlock <;> simp))
      have HBL := Lib.hid hbel; clear hbel
      have HAT := Lib.hid hat; clear hat
      clear hd2 hDl
      have hn := HO.out.1
      rw [Lib.byteCells_length] at hn
      have HN := Lib.hid hn; clear hn
      go_wp2_with (first
        | (at_builtin; refine wpList_append_own _ rfl _ _ 50 rfl B 5 i0 (.int .u8 0) 1 1 Tryd.underlying50 hi0 hz0 hz1 hz2 rfl (by decide) _ _ _ rfl HO2.out ⟨b, J, none⟩ D.length D.length (Lib.byteCells D) rfl ?c0 ?c1 ?c2 ?c3 ?c4 ?c5 ?_)
        | fail)
      case c0 => rw [Lib.byteCells_length, Nat.mul_one]
      case c1 =>
        intro j u' hj
        have hjl := (List.getElem?_eq_some_iff.1 hj).1
        rw [addr_add]
        rw [List.getElem?_eq_getElem hjl] at hj
        exact Eq.trans (HAT.out j hjl) hj
      case c2 => intro u' hu'; simp only [Lib.byteCells, List.mem_map] at hu'; obtain ⟨_, _, rfl⟩ := hu'; rfl
      case c3 => unfold maxLen; omega
      case c4 => omega
      case c5 => exact Nat.le_trans hB HBL.out.size
      intro v' w' ho' hg' _
      go_wp2_with fail
      go_ret2
      have hcc : Lib.byteCells l ++ Lib.byteCells D = Lib.byteCells (l ++ D) := by simp [Lib.byteCells]
      rw [hcc] at ho'
      rw [← HDD.out]
      exact ⟨v', _, rfl, ho', (HBL.out.mono hB).grown hg' (Nat.le_trans hB HBL.out.size) (fun k hk => (HO2.out.lt k hk).1)⟩
/-- AppendUint at base 16 -/
theorem au16_any (u : Nat) (hu : u < 65536) (sv : Value) (n : Nat) (l : Bytes) (B : Nat) (w : World) (hE : NE w) (hB : B ≤ w.heap.size) (hown : w.ownsRow B 5 1 sv n (Lib.byteCells l)) (hlim : n ≤ 1000000) :
    Calls Tryd.prog 43 #[sv, .int .u64 u, .int .i64 16] w fun e w' => ∃ v', e = .returned v' ∧ w'.ownsRow B 5 1 v' (n + (hexF u).length) (Lib.byteCells (l ++ hexF u)) ∧ Below B w w' := by
  have hf := fbits_any u hu sv n l B w hE hB hown hlim
  have hin : Calls Tryd.prog 48 #[sv, .int .u64 u, .int .i64 16] w fun e w' => ∃ v', e = .returned v' ∧ w'.ownsRow B 5 1 v' (n + (hexF u).length) (Lib.byteCells (l ++ hexF u)) ∧ Below B w w' := by
    have HF := Lib.hid hf; clear hf hE hown
    go_enter Tryd.func48, Tryd.ntmps48
    go_wp2_with (first | (go_at_call 52; refine HF.out.mono ?_; rintro e w2 ⟨v2, s2, rfl, ho2, hb2⟩; have HO2 := Lib.hid ho2; have HB2 := Lib.hid hb2; clear ho2 hb2) | fail)
    go_ret
    exact ⟨v2, rfl, HO2.out, HB2.out⟩
  have HI := Lib.hid hin; clear hin hf hE hown
  go_enter Tryd.func43, Tryd.ntmps43
  go_wp2_with (first | (go_at_call 48; refine HI.out.mono ?_; rintro e w2 ⟨v2, rfl, ho2, hb2⟩; have HO2 := Lib.hid ho2; have HB2 := Lib.hid hb2; clear ho2 hb2) | fail)
  go_ret
  exact ⟨v2, rfl, HO2.out, HB2.out⟩
/-- AppendUint at base 10 -/
theorem au10_any (u : Nat) (hu : u < 18446744073709551616) (sv : Value) (n : Nat) (l : Bytes) (B : Nat) (w : World) (hE : NE w) (hB : B ≤ w.heap.size) (hown : w.ownsRow B 5 1 sv n (Lib.byteCells l)) (hlim : n ≤ 1000000) :
    Calls Tryd.prog 43 #[sv, .int .u64 u, .int .i64 10] w fun e w' => ∃ v', e = .returned v' ∧ w'.ownsRow B 5 1 v' (n + (Lib.decDigits u).length) (Lib.byteCells (l ++ Lib.decDigits u)) ∧ Below B w w' := by
  have hin : Calls Tryd.prog 48 #[sv, .int .u64 u, .int .i64 10] w fun e w' => ∃ v', e = .returned v' ∧ w'.ownsRow B 5 1 v' (n + (Lib.decDigits u).length) (Lib.byteCells (l ++ Lib.decDigits u)) ∧ Below B w w' := by
    have hcc : Lib.byteCells l ++ Lib.byteCells (Lib.decDigits u) = Lib.byteCells (l ++ Lib.decDigits u) := by simp [Lib.byteCells]
    rw [← hcc]
    by_cases h : u < 100
    · exact (Any.internal_strconv_AppendUint_10_small Tryd.laysAU B n u h sv _ w hown hB (by omega)).mono fun e w' ⟨v', h1, h2, h3, _⟩ => ⟨v', h1, h2, h3⟩
    · exact (Any.internal_strconv_AppendUint_10_big Tryd.laysAU B n u (by omega) hu sv _ w hown hB (by omega) hE.tab).mono fun e w' ⟨v', h1, h2, h3, _⟩ => ⟨v', h1, h2, h3⟩
  have HI := Lib.hid hin; clear hin hE hown
  go_enter Tryd.func43, Tryd.ntmps43
  go_wp2_with (first | (go_at_call 48; refine HI.out.mono ?_; rintro e w2 ⟨v2, rfl, ho2, hb2⟩; have HO2 := Lib.hid ho2; have HB2 := Lib.hid hb2; clear ho2 hb2) | fail)
  go_ret
  exact ⟨v2, rfl, HO2.out, HB2.out⟩
theorem itoa_any (n : Int) (w : World) (h0 : -9223372036854775808 ≤ n) (h1 : n ≤ 9223372036854775807) (hE : NE w) :
    Calls Tryd.prog 27 #[.int .i64 n] w fun e w' => e = .returned (S (Lib.itoa n)) ∧ Below w.heap.size w w' :=
  (Any.strconv_Itoa Tryd.laysItoa n h0 h1 w hE.tab).mono fun e w' ⟨h2, k, os, h3⟩ => ⟨h2, h3 ▸ Lib.below_grow w.heap.size w (Nat.le_refl _) k os⟩
end Go.Proofs.YtcmpjklkdmpglaaDoor
