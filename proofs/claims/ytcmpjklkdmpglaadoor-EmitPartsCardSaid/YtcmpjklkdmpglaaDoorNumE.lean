/- Addresses of eight pieces as texts: the program's walks. -/
import Derived.Test.YtcmpjklkdmpglaaDoorNumD
namespace Go.Proofs.YtcmpjklkdmpglaaDoor
open Go.RowKit
set_option maxRecDepth 10000

/-- an array of eight pieces, as a value -/
structure Six (cs : Array Value) (a : List Int) : Prop where
  sz : cs.size = 8
  len : a.length = 8
  at_ : ∀ k (h : k < a.length), cs[k]? = some (.int .u16 a[k])
  rng : ∀ n ∈ a, 0 ≤ n ∧ n < 65536
/-- it lies in block b -/
theorem six_load {w : World} {b : Nat} {cs : Array Value} (o : Nat) (h : ∀ i, w.cell? ⟨b, o + i, none⟩ = cs[i]?) : w.rangeAt b o cs.toList := by
  intro j v hj
  rw [h j]
  rw [Array.getElem?_toList] at hj
  exact hj

set_option maxHeartbeats 8000000 in
theorem longest_any (a : List Int) (cs : Array Value) (w : World) (h : Six cs a) :
    Calls Tryd.prog 44 #[.agg cs] w fun e w' => e = .returned (.tuple #[.int .i64 (lrP (zer a)).1, .int .i64 (lrP (zer a)).2]) ∧ Below w.heap.size w w' := by
  have hlen := h.len
  have hat := h.at_
  obtain ⟨z, hz⟩ : ∃ z, z = zer a := ⟨_, rfl⟩
  have hzl : z.length = 8 := by rw [hz, zer_len]; exact hlen
  have hza : ∀ k (hk : k < a.length) (hk2 : k < z.length), z[k] = decide (a[k] = 0) := by intro k hk hk2; subst hz; simp [zer]
  rw [← hz]
  clear h hz
  have HAT := Lib.hid hat; clear hat
  have HZL := Lib.hid hzl; clear hzl
  have HZA := Lib.hid hza; clear hza
  have HLEN := Lib.hid hlen; clear hlen
  obtain ⟨R, hR⟩ : ∃ R, R = lrP z := ⟨_, rfl⟩
  rw [← hR]
  have HR := Lib.hid hR; clear hR
  go_enter Tryd.func44, Tryd.ntmps44
  go_wp2_with (first | (refine boxed rfl _ _ rfl cs rfl ?_; intro bx w1 hb1 hb2 hb3 hb4 hb5; have HC := Lib.hid hb4; have HB := Lib.hid hb5; clear hb1 hb2 hb3 hb4 hb5) | fail)
  go_loopw [4, 5, 6] (fun bv ev iv wr => ∃ b e i f : Nat, bv = .int .i64 b ∧ ev = .int .i64 e ∧ iv = .int .i64 i ∧ Hid (lrGo z f i b e = R) ∧ 8 ≤ i + f ∧ b ≤ e ∧ e ≤ 8 ∧ i ≤ 9 ∧ w1 = wr) (fun _ _ i _ => 9 - (intOf i).toNat)
  case atStart => exact ⟨0, 0, 0, 9, rfl, rfl, rfl, HR.out.symm, by omega, by omega, by omega, by omega, by trivial⟩
  case round =>
    obtain ⟨b, e, i, f, rfl, rfl, rfl, hg, hif, hbe, he8, hi9, rfl⟩ := hrel
    by_cases hlt : i < 8
    · obtain ⟨f', rfl⟩ : ∃ f', f = f' + 1 := ⟨f - 1, by omega⟩
      go_wp2_with fail
      go_loopw [7] (fun jv wr => ∃ j : Nat, jv = .int .i64 j ∧ i ≤ j ∧ j ≤ 8 ∧ Hid (runE z j = runE z i) ∧ w1 = wr) (fun j _ => 8 - (intOf j).toNat)
      case atStart => exact ⟨i, rfl, by omega, by omega, rfl, rfl⟩
      case round =>
        obtain ⟨j, rfl, hij, hj8, hrun, rfl⟩ := hrel
        by_cases hj : j < 8
        · have hja : j < a.length := by have := HLEN.out; omega
          have hjz : j < z.length := by have := HZL.out; omega
          have cj := (HC.out j).trans (HAT.out j hja)
          have hzj := HZA.out j hja hjz
          by_cases hx : a[j] = 0
          · rw [hx] at cj
            have hs := runE_step hjz (by rw [hzj]; simpa using hx)
            have HS := Lib.hid (hs.symm.trans hrun.out); clear hs hzj hx
            go_wp2_with fail
            go_roundw
            case rel =>
              rw [decide_eq_true (show (i : Int) < 8 by omega)]
              (repeat apply Exists.intro)
              exact ⟨⟨j + 1, by simp, by omega, by omega, HS.out, by trivial⟩, rfl⟩
            case measure => simp [intOf]; omega
          · have hs := runE_stop hjz (by rw [hzj]; simpa using hx)
            have HS := Lib.hid (hs.symm.trans hrun.out); clear hs hzj hrun
            generalize a[j] = x at cj hx
            by_cases hc : 2 ≤ j - i ∧ e - b < j - i
            · have HG := Lib.hid ((show lrGo z f' (j + 1) i j = lrGo z (f' + 1) i b e by rw [lrGo, if_pos hlt, ← HS.out, if_pos hc]).trans hg.out)
              have hc1 : (2 : Int) ≤ (j : Int) - i := by omega
              have hc2 : (e : Int) - b < (j : Int) - i := by omega
              clear hc
              go_wp2_with fail
              go_roundw
              case rel => exact ⟨i, j, j + 1, f', rfl, rfl, by simp, HG.out, by omega, by omega, by omega, by omega, by trivial⟩
              case measure => simp [intOf]; omega
            · have HG := Lib.hid ((show lrGo z f' (j + 1) b e = lrGo z (f' + 1) i b e by rw [lrGo, if_pos hlt, ← HS.out, if_neg hc]).trans hg.out)
              have hcc : ¬ (2 : Int) ≤ (j : Int) - i ∨ ((2 : Int) ≤ (j : Int) - i ∧ ¬ (e : Int) - b < (j : Int) - i) := by omega
              clear hc
              rcases hcc with hc1 | ⟨hc1, hc2⟩
              all_goals
                go_wp2_with fail
                go_roundw
                case rel => exact ⟨b, e, j + 1, f', rfl, rfl, by simp, HG.out, by omega, by omega, by omega, by omega, by trivial⟩
                case measure => simp [intOf]; omega
        · have hj8' : j = 8 := by omega
          have hs := runE_end (z := z) (j := j) (by have := HZL.out; omega)
          have HS := Lib.hid (hs.symm.trans hrun.out); clear hs hrun
          have hj8i : ¬ (j : Int) < 8 := by omega
          clear hj8'
          by_cases hc : 2 ≤ j - i ∧ e - b < j - i
          · have HG := Lib.hid ((show lrGo z f' (j + 1) i j = lrGo z (f' + 1) i b e by rw [lrGo, if_pos hlt, ← HS.out, if_pos hc]).trans hg.out)
            have hc1 : (2 : Int) ≤ (j : Int) - i := by omega
            have hc2 : (e : Int) - b < (j : Int) - i := by omega
            clear hc
            go_wp2_with fail
            go_roundw
            case rel => exact ⟨i, j, j + 1, f', rfl, rfl, by simp, HG.out, by omega, by omega, by omega, by omega, by trivial⟩
            case measure => simp [intOf]; omega
          · have HG := Lib.hid ((show lrGo z f' (j + 1) b e = lrGo z (f' + 1) i b e by rw [lrGo, if_pos hlt, ← HS.out, if_neg hc]).trans hg.out)
            have hcc : ¬ (2 : Int) ≤ (j : Int) - i ∨ ((2 : Int) ≤ (j : Int) - i ∧ ¬ (e : Int) - b < (j : Int) - i) := by omega
            clear hc
            rcases hcc with hc1 | ⟨hc1, hc2⟩
            all_goals
              go_wp2_with fail
              go_roundw
              case rel => exact ⟨b, e, j + 1, f', rfl, rfl, by simp, HG.out, by omega, by omega, by omega, by omega, by trivial⟩
              case measure => simp [intOf]; omega
    · have hlti : ¬ (i : Int) < 8 := by omega
      have HG := Lib.hid ((show lrGo z f i b e = (b, e) by cases f with | zero => rfl | succ f => rw [lrGo, if_neg hlt]).symm.trans hg.out)
      go_wp2_with fail
      go_ret2
      refine ⟨?_, HB.out⟩
      rw [← HG.out]
      rfl
theorem rendA_cons (a : List Int) (t : Nat) (l : List Nat) : rendA a (t :: l) = rendT a t ++ rendA a l := by simp [rendA]
theorem tokP_run {b e f i : Nat} (hi : i < 8) (h : i = b ∧ b < e) : tokP b e (f + 1) i = 101 :: tokP b e f e := by rw [tokP, if_pos hi, if_pos h]
theorem tokP_colon {b e f i : Nat} (hi : i < 8) (h : ¬ (i = b ∧ b < e)) (hc : 0 < i ∧ (i ≠ e ∨ e = b)) : tokP b e (f + 1) i = 100 :: i :: tokP b e f (i + 1) := by rw [tokP, if_pos hi, if_neg h, if_pos hc]; rfl
theorem tokP_plain {b e f i : Nat} (hi : i < 8) (h : ¬ (i = b ∧ b < e)) (hc : ¬ (0 < i ∧ (i ≠ e ∨ e = b))) : tokP b e (f + 1) i = i :: tokP b e f (i + 1) := by rw [tokP, if_pos hi, if_neg h, if_neg hc]; rfl
theorem tokP_end {b e f i : Nat} (hi : ¬ i < 8) : tokP b e f i = [] := by cases f with | zero => rfl | succ f => rw [tokP, if_neg hi]
theorem rendT_piece (a : List Int) (ha : a.length = 8) (i : Nat) (hi : i < a.length) : rendT a i = hexF (a[i]).toNat := by
  unfold rendT
  rw [if_neg (by omega), if_neg (by omega)]
  simp [List.getD, hi]

set_option maxHeartbeats 16000000 in
theorem swrite_eq (a : List Int) (cs : Array Value) (w : World) (h : Six cs a) (hE : NE w) (hbe : (lrP (zer a)).2 = (lrP (zer a)).1) :
    Calls Tryd.prog 38 #[.agg cs] w fun e w' => e = .returned (S (sixF a)) ∧ Below w.heap.size w w' := by
  obtain ⟨i0, hi0, hz0, hz1, hz2⟩ := info_parts u8_info
  have hlg := fun W => longest_any a cs W h
  have hlen := h.len
  have hat := h.at_
  have hrng := h.rng
  have hsz := h.sz
  have hall := toks_all (zer a) (mem_all8 _ (by rw [zer_len]; exact hlen))
  have hsx : sixF a = rendA a (tokP (lrP (zer a)).1 (lrP (zer a)).2 9 0) := rfl
  have hsl := sixF_len a hrng
  rw [hbe] at hlg hall hsx
  clear hbe
  obtain ⟨b, hb⟩ : ∃ b, b = (lrP (zer a)).1 := ⟨_, rfl⟩
  rw [← hb] at hlg hall hsx
  obtain ⟨_, hbe, he8, _⟩ := hall
  obtain ⟨R, hR⟩ : ∃ R, R = sixF a := ⟨_, rfl⟩
  rw [← hR] at hsx hsl ⊢
  have hau := fun (u : Nat) (hu : u < 65536) (sv : Value) (n : Nat) (l : Bytes) (B : Nat) (W : World) (hb : Below w.heap.size w W) (hB : B ≤ W.heap.size) (ho : W.ownsRow B 5 1 sv n (Lib.byteCells l)) (hl : n ≤ 100) =>
    au16_any u hu sv n l B W (hE.below hb) hB ho (by omega)
  have HAU := Lib.hid hau
  have HAT := Lib.hid hat
  have HLEN := Lib.hid hlen
  have HRNG := Lib.hid hrng
  have HSZ := Lib.hid hsz
  have HLG := Lib.hid hlg
  have HSX := Lib.hid hsx
  have HSL := Lib.hid hsl
  have HBE := Lib.hid hbe
  have HE8 := Lib.hid he8
  clear hau hat hlen hrng hsz hlg hsx hsl hbe he8 hE h hR hb
  go_enter Tryd.func38, Tryd.ntmps38
  go_wp2_with (first
    | (refine boxed rfl _ _ rfl cs rfl ?_; intro bx w1 hb1 hb2 hb3 hb4 hb5; have HC := Lib.hid hb4; have HB := Lib.hid hb5; have HBX := Lib.hid hb2; clear hb1 hb2 hb3 hb4 hb5)
    | (refine wpList_load_mid rfl 27 _ rfl bx 0 rfl cs.toList _ (six_load 0 (by simpa using HC.out)) Tryd.underlying27 rfl (by rw [Array.length_toList, HSZ.out]; kernel_rfl) ?_)
    | (go_at_call 44; rw [Array.toArray_toList]; refine (HLG.out _).mono ?_; rintro e1 w2 ⟨rfl, hb2⟩; have HB2 := Lib.hid hb2; clear hb2)
    | fail)
  go_loopw [5, 6] (fun ov iv wr => ∃ (i f : Nat) (l : Bytes), iv = .int .i64 i ∧ Hid (l ++ rendA a (tokP b b f i) = R) ∧ 8 ≤ i + f ∧ i ≤ 8 ∧ Hid (wr.ownsRow w2.heap.size 5 1 ov l.length (Lib.byteCells l)) ∧ Hid (Below w2.heap.size w2 wr)) (fun _ i _ => 9 - (intOf i).toNat)
  case atStart => exact ⟨0, 9, [], rfl, HSX.out.symm, by omega, by omega, ⟨by simp [Lib.byteCells], .inl ⟨rfl, rfl⟩⟩, Below.refl _ _⟩
  case round =>
    obtain ⟨i, f, l, rfl, hx, hif, hi8, ho, hb⟩ := hrel
    have hBB : Below w.heap.size w _ := HB.out.trans ((HB2.out.mono HB.out.size).trans (hb.out.mono (Nat.le_trans HB.out.size HB2.out.size)))
    have HBB := Lib.hid hBB; clear hBB
    have hll : l.length ≤ 72 := by
      have h1 := congrArg List.length hx.out
      rw [List.length_append] at h1
      have := HSL.out
      omega
    have HLL := Lib.hid hll; clear hll
    by_cases hlt : i < 8
    · obtain ⟨f', rfl⟩ : ∃ f', f = f' + 1 := ⟨f - 1, by omega⟩
      have hlti : (i : Int) < 8 := by omega
      have hx2 := hx.out
      have hA : ¬ (i = b ∧ b < b) := by omega
      have hia : i < a.length := by have := HLEN.out; omega
      have ci := ((HB2.out.trans (hb.out.mono HB2.out.size)).cell (p := ⟨bx, i, none⟩) HBX.out).trans ((HC.out i).trans (HAT.out i hia))
      have hri := HRNG.out _ (List.getElem_mem hia)
      have hpc := rendT_piece a HLEN.out i hia
      obtain ⟨x, hx0⟩ : ∃ x, x = a[i] := ⟨_, rfl⟩
      rw [← hx0] at ci hri hpc
      obtain ⟨n, rfl⟩ : ∃ n : Nat, x = n := ⟨x.toNat, by omega⟩
      simp only [Int.toNat_natCast] at hpc
      have hn : n < 65536 := by omega
      have hxl := hexF_len 3 n (by omega)
      clear hx0 hri
      by_cases hcol : 0 < i ∧ (i ≠ b ∨ b = b)
      · rw [tokP_colon hlt hA hcol, rendA_cons, rendA_cons, hpc] at hx2
        have hx3 : (l ++ [58] ++ hexF n) ++ rendA a (tokP b b f' (i + 1)) = R := by rw [← hx2]; simp [rendT]
        have HX := Lib.hid hx3; clear hx3 hx2 hx hpc
        have HXL := Lib.hid hxl; clear hxl
        have h0 : (0 : Int) < i := by omega
        clear hcol hA
        by_cases hib : i = b
        · subst hib
          have hwz := hb.out.size
          go_wp2_with (first
            | (at_builtin; (refine push1 rfl (.tmp 40) (.tmp 41) _ rfl w2.heap.size 5 i0 (.int .u8 0) 1 Tryd.underlying50 hi0 hz0 hz1 hz2 (by decide) _ _ _ _ rfl ho.out (.int .u8 58) rfl rfl (by have := HLL.out; omega) (by decide) hwz ?_); intro v3 w3 hown3 hw3 hb3; have HO3 := Lib.hid hown3; clear hown3; have HB3 := Lib.hid (hb.out.trans hb3); have HZ3 := Lib.hid (HBB.out.trans (hb3.mono (Nat.le_trans HB.out.size HB2.out.size))); have ci3 := (hb3.cell (p := ⟨bx, i, none⟩) (Nat.lt_of_lt_of_le HBX.out HB2.out.size)).trans ci; clear hb3)
            | (go_at_call 43; refine (HAU.out n hn _ _ (l ++ [58]) w2.heap.size _ HZ3.out HB3.out.size (by rw [bytes_snoc]; exact HO3.out) (by have := HLL.out; simp; omega)).mono ?_; rintro e4 w4 ⟨v4, rfl, ho4, hb4⟩; have HO4 := Lib.hid ho4; clear ho4; have HB4 := Lib.hid (HB3.out.trans hb4); clear hb4)
            | fail)
          go_roundw
          case rel =>
            refine ⟨i + 1, f', l ++ [58] ++ hexF n, by simp_all, HX.out, by omega, by omega, ?_, HB4.out⟩
            have := HO4.out
            rw [List.length_append, List.length_append]
            exact this
          case measure => simp_all [intOf] <;> omega
        · have hibi : ¬ (i : Int) = b := by omega
          clear hib
          have hwz := hb.out.size
          go_wp2_with (first
            | (at_builtin; (refine push1 rfl (.tmp 40) (.tmp 41) _ rfl w2.heap.size 5 i0 (.int .u8 0) 1 Tryd.underlying50 hi0 hz0 hz1 hz2 (by decide) _ _ _ _ rfl ho.out (.int .u8 58) rfl rfl (by have := HLL.out; omega) (by decide) hwz ?_); intro v3 w3 hown3 hw3 hb3; have HO3 := Lib.hid hown3; clear hown3; have HB3 := Lib.hid (hb.out.trans hb3); have HZ3 := Lib.hid (HBB.out.trans (hb3.mono (Nat.le_trans HB.out.size HB2.out.size))); have ci3 := (hb3.cell (p := ⟨bx, i, none⟩) (Nat.lt_of_lt_of_le HBX.out HB2.out.size)).trans ci; clear hb3)
            | (go_at_call 43; refine (HAU.out n hn _ _ (l ++ [58]) w2.heap.size _ HZ3.out HB3.out.size (by rw [bytes_snoc]; exact HO3.out) (by have := HLL.out; simp; omega)).mono ?_; rintro e4 w4 ⟨v4, rfl, ho4, hb4⟩; have HO4 := Lib.hid ho4; clear ho4; have HB4 := Lib.hid (HB3.out.trans hb4); clear hb4)
            | fail)
          go_roundw
          case rel =>
            refine ⟨i + 1, f', l ++ [58] ++ hexF n, by simp_all, HX.out, by omega, by omega, ?_, HB4.out⟩
            have := HO4.out
            rw [List.length_append, List.length_append]
            exact this
          case measure => simp_all [intOf] <;> omega
      · rw [tokP_plain hlt hA hcol, rendA_cons, hpc] at hx2
        have hx3 : (l ++ hexF n) ++ rendA a (tokP b b f' (i + 1)) = R := by rw [← hx2]; simp
        have HX := Lib.hid hx3; clear hx3 hx2 hx hpc
        have HXL := Lib.hid hxl; clear hxl
        have h0 : ¬ (0 : Int) < i := by omega
        clear hcol hA
        by_cases hib : i = b
        · subst hib
          go_wp2_with (first
            | (go_at_call 43; refine (HAU.out n hn _ _ l w2.heap.size _ HBB.out hb.out.size ho.out (by have := HLL.out; simp; omega)).mono ?_; rintro e4 w4 ⟨v4, rfl, ho4, hb4⟩; have HO4 := Lib.hid ho4; clear ho4; have HB4 := Lib.hid (hb.out.trans hb4); clear hb4)
            | fail)
          go_roundw
          case rel =>
            refine ⟨i + 1, f', l ++ hexF n, by simp_all, HX.out, by omega, by omega, ?_, HB4.out⟩
            have := HO4.out
            rw [List.length_append]
            exact this
          case measure => simp_all [intOf] <;> omega
        · have hibi : ¬ (i : Int) = b := by omega
          clear hib
          go_wp2_with (first
            | (go_at_call 43; refine (HAU.out n hn _ _ l w2.heap.size _ HBB.out hb.out.size ho.out (by have := HLL.out; simp; omega)).mono ?_; rintro e4 w4 ⟨v4, rfl, ho4, hb4⟩; have HO4 := Lib.hid ho4; clear ho4; have HB4 := Lib.hid (hb.out.trans hb4); clear hb4)
            | fail)
          go_roundw
          case rel =>
            refine ⟨i + 1, f', l ++ hexF n, by simp_all, HX.out, by omega, by omega, ?_, HB4.out⟩
            have := HO4.out
            rw [List.length_append]
            exact this
          case measure => simp_all [intOf] <;> omega
    · have hlti : ¬ (i : Int) < 8 := by omega
      have hx2 := hx.out
      rw [tokP_end hlt] at hx2
      have hx3 : l = R := by rw [← hx2]; simp [rendA]
      have hcv := conv_own (P := Tryd.prog) (src := 50) (dst := 9) Tryd.underlying50 Tryd.underlying5 Tryd.underlying9 ho.out
      rw [hx3] at hcv
      clear hx3 hx2
      go_wp2_with fail
      go_ret
      exact ⟨rfl, HBB.out⟩
set_option maxHeartbeats 16000000 in
theorem swrite_lt (a : List Int) (cs : Array Value) (w : World) (h : Six cs a) (hE : NE w) (hbe : (lrP (zer a)).1 < (lrP (zer a)).2) :
    Calls Tryd.prog 38 #[.agg cs] w fun e w' => e = .returned (S (sixF a)) ∧ Below w.heap.size w w' := by
  obtain ⟨i0, hi0, hz0, hz1, hz2⟩ := info_parts u8_info
  have hlg := fun W => longest_any a cs W h
  have hlen := h.len
  have hat := h.at_
  have hrng := h.rng
  have hsz := h.sz
  have hall := toks_all (zer a) (mem_all8 _ (by rw [zer_len]; exact hlen))
  have hsx : sixF a = rendA a (tokP (lrP (zer a)).1 (lrP (zer a)).2 9 0) := rfl
  have hsl := sixF_len a hrng
  obtain ⟨b, hb⟩ : ∃ b, b = (lrP (zer a)).1 := ⟨_, rfl⟩
  obtain ⟨e, he⟩ : ∃ e, e = (lrP (zer a)).2 := ⟨_, rfl⟩
  rw [← hb, ← he] at hlg hall hsx hbe
  clear he
  have hbei : (b : Int) < e := by omega
  obtain ⟨_, _, he8, _⟩ := hall
  obtain ⟨R, hR⟩ : ∃ R, R = sixF a := ⟨_, rfl⟩
  rw [← hR] at hsx hsl ⊢
  have hau := fun (u : Nat) (hu : u < 65536) (sv : Value) (n : Nat) (l : Bytes) (B : Nat) (W : World) (hb : Below w.heap.size w W) (hB : B ≤ W.heap.size) (ho : W.ownsRow B 5 1 sv n (Lib.byteCells l)) (hl : n ≤ 100) =>
    au16_any u hu sv n l B W (hE.below hb) hB ho (by omega)
  have HAU := Lib.hid hau
  have HAT := Lib.hid hat
  have HLEN := Lib.hid hlen
  have HRNG := Lib.hid hrng
  have HSZ := Lib.hid hsz
  have HLG := Lib.hid hlg
  have HSX := Lib.hid hsx
  have HSL := Lib.hid hsl
  have HBE := Lib.hid hbe
  have HE8 := Lib.hid he8
  clear hau hat hlen hrng hsz hlg hsx hsl hbe he8 hE h hR hb
  go_enter Tryd.func38, Tryd.ntmps38
  go_wp2_with (first
    | (refine boxed rfl _ _ rfl cs rfl ?_; intro bx w1 hb1 hb2 hb3 hb4 hb5; have HC := Lib.hid hb4; have HB := Lib.hid hb5; have HBX := Lib.hid hb2; clear hb1 hb2 hb3 hb4 hb5)
    | (refine wpList_load_mid rfl 27 _ rfl bx 0 rfl cs.toList _ (six_load 0 (by simpa using HC.out)) Tryd.underlying27 rfl (by rw [Array.length_toList, HSZ.out]; kernel_rfl) ?_)
    | (go_at_call 44; rw [Array.toArray_toList]; refine (HLG.out _).mono ?_; rintro e1 w2 ⟨rfl, hb2⟩; have HB2 := Lib.hid hb2; clear hb2)
    | fail)
  go_loopw [5, 6] (fun ov iv wr => ∃ (i f : Nat) (l : Bytes), iv = .int .i64 i ∧ Hid (l ++ rendA a (tokP b e f i) = R) ∧ 8 ≤ i + f ∧ i ≤ 8 ∧ Hid (wr.ownsRow w2.heap.size 5 1 ov l.length (Lib.byteCells l)) ∧ Hid (Below w2.heap.size w2 wr)) (fun _ i _ => 9 - (intOf i).toNat)
  case atStart => exact ⟨0, 9, [], rfl, HSX.out.symm, by omega, by omega, ⟨by simp [Lib.byteCells], .inl ⟨rfl, rfl⟩⟩, Below.refl _ _⟩
  case round =>
    obtain ⟨i, f, l, rfl, hx, hif, hi8, ho, hb⟩ := hrel
    have hBB : Below w.heap.size w _ := HB.out.trans ((HB2.out.mono HB.out.size).trans (hb.out.mono (Nat.le_trans HB.out.size HB2.out.size)))
    have HBB := Lib.hid hBB; clear hBB
    have hll : l.length ≤ 72 := by
      have h1 := congrArg List.length hx.out
      rw [List.length_append] at h1
      have := HSL.out
      omega
    have HLL := Lib.hid hll; clear hll
    by_cases hlt : i < 8
    · obtain ⟨f', rfl⟩ : ∃ f', f = f' + 1 := ⟨f - 1, by omega⟩
      have hlti : (i : Int) < 8 := by omega
      have hx2 := hx.out
      by_cases hA : i = b ∧ b < e
      · rw [tokP_run hlt hA, rendA_cons] at hx2
        have hx3 : (l ++ [58, 58]) ++ rendA a (tokP b e f' e) = R := by rw [← hx2]; simp [rendT]
        have HX := Lib.hid hx3; clear hx3 hx2 hx
        obtain ⟨hA1, _⟩ := hA
        have hA3 : (i : Int) = b := by omega
        have he8i : (e : Int) ≤ 8 := by have := HE8.out; omega
        have hei : (1 : Int) ≤ e := by omega
        clear hA1
        have hwz := hb.out.size
        go_wp2_with (first
          | (at_builtin; (refine pushS rfl (.tmp 24) (.const (.string ⟨#[58, 58]⟩)) _ _ rfl w2.heap.size 5 i0 Tryd.underlying50 Tryd.underlying9 hi0 hz0 hz1 hz2 _ _ _ l rfl ho.out [58, 58] rfl (by have := HLL.out; simp; omega) hwz ?_); intro v3 w3 hown3 hw3 hb3; have HO3 := Lib.hid hown3; clear hown3; have HB3 := Lib.hid hb3; clear hb3)
          | fail)
        go_roundw
        case rel =>
          refine ⟨e, f', l ++ [58, 58], by simp, HX.out, by have := HBE.out; omega, HE8.out, ?_, hb.out.trans HB3.out⟩
          rw [List.length_append]
          exact HO3.out
        case measure => simp_all [intOf]; have := HE8.out; omega
      · have hia : i < a.length := by have := HLEN.out; omega
        have ci := ((HB2.out.trans (hb.out.mono HB2.out.size)).cell (p := ⟨bx, i, none⟩) HBX.out).trans ((HC.out i).trans (HAT.out i hia))
        have hri := HRNG.out _ (List.getElem_mem hia)
        have hpc := rendT_piece a HLEN.out i hia
        obtain ⟨x, hx0⟩ : ∃ x, x = a[i] := ⟨_, rfl⟩
        rw [← hx0] at ci hri hpc
        obtain ⟨n, rfl⟩ : ∃ n : Nat, x = n := ⟨x.toNat, by omega⟩
        simp only [Int.toNat_natCast] at hpc
        have hn : n < 65536 := by omega
        have hxl := hexF_len 3 n (by omega)
        clear hx0 hri
        by_cases hcol : 0 < i ∧ (i ≠ e ∨ e = b)
        · rw [tokP_colon hlt hA hcol, rendA_cons, rendA_cons, hpc] at hx2
          have hx3 : (l ++ [58] ++ hexF n) ++ rendA a (tokP b e f' (i + 1)) = R := by rw [← hx2]; simp [rendT]
          have HX := Lib.hid hx3; clear hx3 hx2 hx hpc
          have HXL := Lib.hid hxl; clear hxl
          have h0 : (0 : Int) < i := by omega
          have h1 : ¬ (i : Int) = b := by have := HBE.out; omega
          have h2 : ¬ (i : Int) = e := by have := HBE.out; omega
          clear hcol hA
          have hwz := hb.out.size
          go_wp2_with (first
            | (at_builtin; (refine push1 rfl (.tmp 40) (.tmp 41) _ rfl w2.heap.size 5 i0 (.int .u8 0) 1 Tryd.underlying50 hi0 hz0 hz1 hz2 (by decide) _ _ _ _ rfl ho.out (.int .u8 58) rfl rfl (by have := HLL.out; omega) (by decide) hwz ?_); intro v3 w3 hown3 hw3 hb3; have HO3 := Lib.hid hown3; clear hown3; have HB3 := Lib.hid (hb.out.trans hb3); have HZ3 := Lib.hid (HBB.out.trans (hb3.mono (Nat.le_trans HB.out.size HB2.out.size))); have ci3 := (hb3.cell (p := ⟨bx, i, none⟩) (Nat.lt_of_lt_of_le HBX.out HB2.out.size)).trans ci; clear hb3)
            | (go_at_call 43; refine (HAU.out n hn _ _ (l ++ [58]) w2.heap.size _ HZ3.out HB3.out.size (by rw [bytes_snoc]; exact HO3.out) (by have := HLL.out; simp; omega)).mono ?_; rintro e4 w4 ⟨v4, rfl, ho4, hb4⟩; have HO4 := Lib.hid ho4; clear ho4; have HB4 := Lib.hid (HB3.out.trans hb4); clear hb4)
            | fail)
          all_goals
            go_roundw
            case rel =>
              refine ⟨i + 1, f', l ++ [58] ++ hexF n, by simp_all, HX.out, by omega, by omega, ?_, HB4.out⟩
              have := HO4.out
              rw [List.length_append, List.length_append]
              exact this
            case measure => simp_all [intOf] <;> omega
        · rw [tokP_plain hlt hA hcol, rendA_cons, hpc] at hx2
          have hx3 : (l ++ hexF n) ++ rendA a (tokP b e f' (i + 1)) = R := by rw [← hx2]; simp
          have HX := Lib.hid hx3; clear hx3 hx2 hx hpc
          have HXL := Lib.hid hxl; clear hxl
          have h1 : ¬ (i : Int) = b := by have := HBE.out; omega
          have h3 : ¬ (e : Int) = b := by have := HBE.out; omega
          have h2 : (¬ (0 : Int) < i) ∨ ((0 : Int) < i ∧ (i : Int) = e) := by have := HBE.out; omega
          clear hcol hA
          rcases h2 with h2 | ⟨h2, h4⟩
          · go_wp2_with (first
              | (go_at_call 43; refine (HAU.out n hn _ _ l w2.heap.size _ HBB.out hb.out.size ho.out (by have := HLL.out; simp; omega)).mono ?_; rintro e4 w4 ⟨v4, rfl, ho4, hb4⟩; have HO4 := Lib.hid ho4; clear ho4; have HB4 := Lib.hid (hb.out.trans hb4); clear hb4)
              | fail)
            go_roundw
            case rel =>
              refine ⟨i + 1, f', l ++ hexF n, by simp_all, HX.out, by omega, by omega, ?_, HB4.out⟩
              have := HO4.out
              rw [List.length_append]
              exact this
            case measure => simp_all [intOf] <;> omega
          · obtain rfl : i = e := by omega
            clear h4
            go_wp2_with (first
              | (go_at_call 43; refine (HAU.out n hn _ _ l w2.heap.size _ HBB.out hb.out.size ho.out (by have := HLL.out; simp; omega)).mono ?_; rintro e4 w4 ⟨v4, rfl, ho4, hb4⟩; have HO4 := Lib.hid ho4; clear ho4; have HB4 := Lib.hid (hb.out.trans hb4); clear hb4)
              | fail)
            go_roundw
            case rel =>
              refine ⟨i + 1, f', l ++ hexF n, by simp_all, HX.out, by omega, by omega, ?_, HB4.out⟩
              have := HO4.out
              rw [List.length_append]
              exact this
            case measure => simp_all [intOf] <;> omega
    · have hlti : ¬ (i : Int) < 8 := by omega
      have hx2 := hx.out
      rw [tokP_end hlt] at hx2
      have hx3 : l = R := by rw [← hx2]; simp [rendA]
      have hcv := conv_own (P := Tryd.prog) (src := 50) (dst := 9) Tryd.underlying50 Tryd.underlying5 Tryd.underlying9 ho.out
      rw [hx3] at hcv
      clear hx3 hx2
      go_wp2_with fail
      go_ret
      exact ⟨rfl, HBB.out⟩
theorem swrite_any (a : List Int) (cs : Array Value) (w : World) (h : Six cs a) (hE : NE w) :
    Calls Tryd.prog 38 #[.agg cs] w fun e w' => e = .returned (S (sixF a)) ∧ Below w.heap.size w w' := by
  have hall := toks_all (zer a) (mem_all8 _ (by rw [zer_len]; exact h.len))
  by_cases hb : (lrP (zer a)).1 < (lrP (zer a)).2
  · exact swrite_lt a cs w h hE hb
  · exact swrite_eq a cs w h hE (by omega)
end Go.Proofs.YtcmpjklkdmpglaaDoor
