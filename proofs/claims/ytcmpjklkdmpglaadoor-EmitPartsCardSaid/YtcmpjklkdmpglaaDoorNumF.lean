/- Addresses of eight pieces as texts: the reference's walks. -/
import Derived.Test.YtcmpjklkdmpglaaDoorNumE
import Derived.Test.YtcmpjklkdmpglaaDoorReg
namespace Go.Proofs.YtcmpjklkdmpglaaDoor
open Go.RowKit
set_option maxRecDepth 10000

theorem hexs : ∀ k : Fin 16, (⟨#[48, 49, 50, 51, 52, 53, 54, 55, 56, 57, 97, 98, 99, 100, 101, 102]⟩ : ByteArray).extract k.val (k.val + 1) = bs [hexd k.val] := by decide +kernel
set_option maxHeartbeats 4000000 in
theorem rhex_any : ∀ (u : Nat) (w : World), u < 65536 → Calls Tryd.prog 54 #[.int .i64 u] w fun e w' => e = .returned (S (hexF u)) ∧ Below w.heap.size w w' := by
  intro u
  induction u using Nat.strongRecOn with
  | ind u ih =>
    intro w hu
    by_cases h16 : u < 16
    · have hs := hexs ⟨u, h16⟩
      simp only at hs
      have hx := hex_small h16
      have hi : (u : Int) < 16 := by omega
      go_enter Tryd.func54, Tryd.ntmps54
      go_wp2_with fail
      go_ret
      refine ⟨?_, Below.refl _ _⟩
      rw [hx]
      first | rfl | (simp_all)
    · have hi : ¬ (u : Int) < 16 := by omega
      have hi2 : (u : Int) < 65536 := by omega
      have w1 : IntKind.i64.wrap ((u : Int) / 16) = (u : Int) / 16 := IntWalk.i64_in _ (by omega)
      have w2 : (u : Int).tmod 16 = (u : Int) % 16 := Int.tmod_eq_emod_of_nonneg (by omega)
      have w3 : IntKind.i64.wrap ((u : Int) % 16 + 1) = (u : Int) % 16 + 1 := IntWalk.i64_in _ (by omega)
      have c1 : (0 : Int) ≤ (u : Int) % 16 + 1 := by omega
      have c2 : (u : Int) % 16 + 1 ≤ 16 := by omega
      have c3 : (0 : Int) ≤ (u : Int) % 16 := by omega
      have c4 : (u : Int) % 16 ≤ (u : Int) % 16 + 1 := by omega
      have t1 : ((u : Int) % 16).toNat = u % 16 := by omega
      have t2 : ((u : Int) % 16 + 1).toNat = u % 16 + 1 := by omega
      have hs := hexs ⟨u % 16, by omega⟩
      simp only at hs
      have hx := hex_big h16
      have hxl := hexF_len 3 (u / 16) (by omega)
      have hrec : ∀ (q : Int), q = ((u / 16 : Nat) : Int) → ∀ W, Calls Tryd.prog 54 #[.int .i64 q] W fun e w' => e = .returned (S (hexF (u / 16))) ∧ Below W.heap.size W w' := fun q hq W => hq ▸ ih (u / 16) (by omega) W (by omega)
      have hcat := bs_app (hexF (u / 16)) [hexd (u % 16)]
      rw [← hx] at hcat
      generalize hexF u = D at hcat ⊢
      generalize hexF (u / 16) = T at hcat hrec hxl
      generalize hexd (u % 16) = dg at hs hcat
      have hlt : ¬ 9223372036854775807 < T.length + 1 := by omega
      have HREC := Lib.hid hrec; clear hrec ih hx
      go_enter Tryd.func54, Tryd.ntmps54
      go_wp2_with fail
      refine wp_region_held_drew (S := fun _ => True) (by kernel_rfl) (by exact trivial) (fun hHeld => ?_)
      refine tk 0 (v := ?_) rfl (by kernel_rfl) (by kernel_rfl) (by kernel_rfl) (fun _ _ _ h => h) (by rfl) (by assumption) (fun w hSw => ?_) ?_
      rotate_left
      · (try dsimp only at hSw); go_simp; first | done | with_reducible rfl   -- move
      try simp only [Act.put, List.setIfInBounds_toArray, List.set_cons_zero, List.set_cons_succ]
      refine tk 1 (v := ?_) rfl (by kernel_rfl) (by kernel_rfl) (by kernel_rfl) (fun _ _ _ h => h) (by rfl) (by assumption) (fun w hSw => ?_) ?_
      rotate_left
      · (try dsimp only at hSw); go_simp; first | done | with_reducible rfl   -- binOp
      try simp only [Act.put, List.setIfInBounds_toArray, List.set_cons_zero, List.set_cons_succ]
      refine tk 3 (v := ?_) rfl (by kernel_rfl) (by kernel_rfl) (by kernel_rfl) (fun _ _ _ h => h) (by rfl) (by assumption) (fun w hSw => ?_) ?_
      rotate_left
      · (try dsimp only at hSw); go_simp; first | done | with_reducible rfl   -- move
      try simp only [Act.put, List.setIfInBounds_toArray, List.set_cons_zero, List.set_cons_succ]
      refine tk 4 (v := ?_) rfl (by kernel_rfl) (by kernel_rfl) (by kernel_rfl) (fun _ _ _ h => h) (by rfl) (by assumption) (fun w hSw => ?_) ?_
      rotate_left
      · (try dsimp only at hSw); go_simp; first | done | with_reducible rfl   -- move
      try simp only [Act.put, List.setIfInBounds_toArray, List.set_cons_zero, List.set_cons_succ]
      refine tk 5 (v := ?_) rfl (by kernel_rfl) (by kernel_rfl) (by kernel_rfl) (fun _ _ _ h => h) (by rfl) (by assumption) (fun w hSw => ?_) ?_
      rotate_left
      · (try dsimp only at hSw); go_simp; first | done | with_reducible rfl   -- binOp
      try simp only [Act.put, List.setIfInBounds_toArray, List.set_cons_zero, List.set_cons_succ]
      refine tk 6 (v := ?_) rfl (by kernel_rfl) (by kernel_rfl) (by kernel_rfl) (fun _ _ _ h => h) (by rfl) (by assumption) (fun w hSw => ?_) ?_
      rotate_left
      · (try dsimp only at hSw); go_simp; first | done | with_reducible rfl   -- move
      try simp only [Act.put, List.setIfInBounds_toArray, List.set_cons_zero, List.set_cons_succ]
      refine tk 7 (v := ?_) rfl (by kernel_rfl) (by kernel_rfl) (by kernel_rfl) (fun _ _ _ h => h) (by rfl) (by assumption) (fun w hSw => ?_) ?_
      rotate_left
      · (try dsimp only at hSw); go_simp; first | done | with_reducible rfl   -- binOp
      try simp only [Act.put, List.setIfInBounds_toArray, List.set_cons_zero, List.set_cons_succ]
      refine tk 8 (v := ?_) rfl (by kernel_rfl) (by kernel_rfl) (by kernel_rfl) (fun _ _ _ h => h) (by rfl) (by assumption) (fun w hSw => ?_) ?_
      rotate_left
      · (try dsimp only at hSw); go_simp; first | done | with_reducible rfl   -- binOp
      try simp only [Act.put, List.setIfInBounds_toArray, List.set_cons_zero, List.set_cons_succ]
      refine tk 9 (v := ?_) rfl (by kernel_rfl) (by kernel_rfl) (by kernel_rfl) (fun _ _ _ h => h) (by rfl) (by assumption) (fun w hSw => ?_) ?_
      rotate_left
      · (try dsimp only at hSw); go_simp; first | done | with_reducible rfl   -- slice
      try simp only [Act.put, List.setIfInBounds_toArray, List.set_cons_zero, List.set_cons_succ]
      refine rn 2 (by kernel_rfl) rfl (by rfl) (fun K hK => ?_)
      go_simp   -- 2: call of tamis/tamisref10.hex
      refine (HREC.out _ (by omega) _).mono ?_
      rintro e w2 ⟨rfl, hb2⟩
      have HB2 := Lib.hid hb2; clear hb2
      dsimp only
      refine hK.out _ _ ?_ (fun hHeld => ?_)
      · exact trivial
      clear hK K
      try simp only [Act.put, List.setIfInBounds_toArray, List.set_cons_zero, List.set_cons_succ]
      refine tk 10 (v := ?_) rfl (by kernel_rfl) (by kernel_rfl) (by kernel_rfl) (fun _ _ _ h => h) (by rfl) (by assumption) (fun w hSw => ?_) ?_
      rotate_left
      · (try dsimp only at hSw); go_simp; first | done | with_reducible rfl   -- binOp
      try simp only [Act.put, List.setIfInBounds_toArray, List.set_cons_zero, List.set_cons_succ]
      refine tk 11 (v := ?_) rfl (by kernel_rfl) (by kernel_rfl) (by kernel_rfl) (fun _ _ _ h => h) (by rfl) (by assumption) (fun w hSw => ?_) ?_
      rotate_left
      · (try dsimp only at hSw); go_simp; first | done | with_reducible rfl   -- assign
      try simp only [Act.put, List.setIfInBounds_toArray, List.set_cons_zero, List.set_cons_succ]
      refine wpAnyH_done (by kernel_rfl) ?_ _
      go_wp2_with fail
      go_ret
      exact ⟨rfl, (Below.refl w.heap.size w).drew.trans HB2.out⟩
/-- what stands at a text's end -/
structure LastC (l : Bytes) (c : Bool) : Prop where
  yes : c = true → ∃ p x, l = p ++ [x] ∧ x ≠ 58
  no : c = false → l = [] ∨ ∃ p, l = p ++ [58]
theorem hexd_ne (n : Nat) (h : n < 16) : hexd n ≠ 58 := by
  have : ∀ k : Fin 16, hexd k.val ≠ 58 := by decide +kernel
  exact this ⟨n, h⟩
theorem hex_last (u : Nat) : ∃ p x, hexF u = p ++ [x] ∧ x ≠ 58 := by
  by_cases h : u < 16
  · exact ⟨[], hexd u, by rw [hex_small h]; rfl, hexd_ne u h⟩
  · exact ⟨hexF (u / 16), hexd (u % 16), hex_big h, hexd_ne _ (by omega)⟩
theorem LastC.hex (l : Bytes) (u : Nat) : LastC (l ++ hexF u) true := by
  obtain ⟨p, x, h1, h2⟩ := hex_last u
  refine ⟨fun _ => ⟨l ++ p, x, by rw [h1, List.append_assoc], h2⟩, fun h => by cases h⟩
theorem LastC.two (l : Bytes) : LastC (l ++ [58, 58]) false := ⟨fun h => (by cases h), fun _ => .inr ⟨l ++ [58], by simp⟩⟩
theorem tokR_run {b m f i : Nat} {c : Bool} (hi : i < 8) (h : i = b) : tokR b m (f + 1) i c = 101 :: tokR b m f (i + m) false := by rw [tokR, if_pos hi, if_pos h]
theorem tokR_colon {b m f i : Nat} (hi : i < 8) (h : ¬ i = b) : tokR b m (f + 1) i true = 100 :: i :: tokR b m f (i + 1) true := by rw [tokR, if_pos hi, if_neg h]; rfl
theorem tokR_plain {b m f i : Nat} (hi : i < 8) (h : ¬ i = b) : tokR b m (f + 1) i false = i :: tokR b m f (i + 1) true := by rw [tokR, if_pos hi, if_neg h]; rfl
theorem tokR_end {b m f i : Nat} {c : Bool} (hi : ¬ i < 8) : tokR b m f i c = [] := by cases f with | zero => rfl | succ f => rw [tokR, if_neg hi]

set_option maxHeartbeats 16000000 in
theorem rswrite_any (a : List Int) (cs : Array Value) (w : World) (h : Six cs a) :
    Calls Tryd.prog 47 #[.agg cs] w fun e w' => e = .returned (S (sixF a)) ∧ Below w.heap.size w w' := by
  have hlen := h.len
  have hat := h.at_
  have hrng := h.rng
  obtain ⟨z, hz⟩ : ∃ z, z = zer a := ⟨_, rfl⟩
  have hzl : z.length = 8 := by rw [hz, zer_len]; exact hlen
  have hza : ∀ k (hk : k < a.length) (hk2 : k < z.length), z[k] = decide (a[k] = 0) := by intro k hk hk2; subst hz; simp [zer]
  have hall := toks_all (zer a) (mem_all8 _ (by rw [zer_len]; exact hlen))
  have hsx : sixF a = rendA a (tokR (lrR (zer a)).1 (lrR (zer a)).2 9 0 false) := (six_same a hlen).symm
  have hsl := sixF_len a hrng
  rw [← hz] at hall hsx
  obtain ⟨_, _, _, hm1, hm8, hf8, hfm⟩ := hall
  obtain ⟨D, hD⟩ : ∃ D, D = sixF a := ⟨_, rfl⟩
  rw [← hD] at hsx hsl ⊢
  obtain ⟨R, hR⟩ : ∃ R, R = lrR z := ⟨_, rfl⟩
  rw [← hR] at hsx hm1 hm8 hf8 hfm
  have HM := Lib.hid (And.intro hm1 (And.intro hm8 (And.intro hf8 hfm)))
  clear h hz hD hm1 hm8 hf8 hfm
  have HAT := Lib.hid hat; clear hat
  have HZL := Lib.hid hzl; clear hzl
  have HZA := Lib.hid hza; clear hza
  have HLEN := Lib.hid hlen; clear hlen
  have HRNG := Lib.hid hrng; clear hrng
  have HR := Lib.hid hR; clear hR
  have HSX := Lib.hid hsx; clear hsx
  have HSL := Lib.hid hsl; clear hsl
  go_enter Tryd.func47, Tryd.ntmps47
  go_wp2_with (first | (refine boxed rfl _ _ rfl cs rfl ?_; intro bx w1 hb1 hb2 hb3 hb4 hb5; have HC := Lib.hid hb4; have HB := Lib.hid hb5; have HBX := Lib.hid hb2; clear hb1 hb2 hb3 hb4 hb5) | fail)
  go_loopw [3, 4, 5] (fun bv ev iv wr => ∃ b m i f : Nat, bv = .int .i64 b ∧ ev = .int .i64 m ∧ iv = .int .i64 i ∧ Hid (lrHo z f i b m = R) ∧ 8 ≤ i + f ∧ m ≤ 8 ∧ i ≤ 8 ∧ w1 = wr) (fun _ _ i _ => 9 - (intOf i).toNat)
  case atStart => exact ⟨8, 1, 0, 9, rfl, rfl, rfl, HR.out.symm, by omega, by omega, by omega, rfl⟩
  case round =>
    obtain ⟨b, m, i, f, rfl, rfl, rfl, hg, hif, hm8, hi8, rfl⟩ := hrel
    by_cases hlt : i < 8
    · obtain ⟨f', rfl⟩ : ∃ f', f = f' + 1 := ⟨f - 1, by omega⟩
      have hlti : (i : Int) < 8 := by omega
      go_wp2_with fail
      go_loopw [6] (fun nv wr => ∃ n : Nat, nv = .int .i64 n ∧ i + n ≤ 8 ∧ Hid (runE z (i + n) = runE z i) ∧ w1 = wr) (fun n _ => 8 - (intOf n).toNat)
      case atStart => exact ⟨0, rfl, by omega, rfl, rfl⟩
      case round =>
        obtain ⟨n, rfl, hn8, hrun, rfl⟩ := hrel
        by_cases hj : i + n < 8
        · have hja : i + n < a.length := by have := HLEN.out; omega
          have hjz : i + n < z.length := by have := HZL.out; omega
          have cj := (HC.out (i + n)).trans (HAT.out (i + n) hja)
          have hzj := HZA.out (i + n) hja hjz
          have hji : (i : Int) + n < 8 := by omega
          have hin : ((i : Int) + n).toNat = i + n := by omega
          by_cases hx : a[i + n] = 0
          · rw [hx] at cj
            have hs := runE_step hjz (by rw [hzj]; simpa using hx)
            have HS := Lib.hid (hs.symm.trans hrun.out); clear hs hzj hx
            go_wp2_with fail
            go_roundw
            case rel =>
              exact ⟨n + 1, by simp, by omega, HS.out, by trivial⟩
            case measure => simp [intOf]; omega
          · have hs := runE_stop hjz (by rw [hzj]; simpa using hx)
            have HS := Lib.hid (hs.symm.trans hrun.out); clear hs hzj hrun
            generalize a[i + n] = x at cj hx
            by_cases hc : m < n
            · have HG := Lib.hid ((show lrHo z f' (i + 1) i n = lrHo z (f' + 1) i b m by rw [lrHo, if_pos hlt, ← HS.out, show i + n - i = n by omega, if_pos hc]).trans hg.out)
              have hc1 : (m : Int) < n := by omega
              clear hc
              go_wp2_with fail
              go_roundw
              case rel => exact ⟨i, n, i + 1, f', rfl, rfl, by simp, HG.out, by omega, by omega, by omega, by trivial⟩
              case measure => simp [intOf]; omega
            · have HG := Lib.hid ((show lrHo z f' (i + 1) b m = lrHo z (f' + 1) i b m by rw [lrHo, if_pos hlt, ← HS.out, show i + n - i = n by omega, if_neg hc]).trans hg.out)
              have hc1 : ¬ (m : Int) < n := by omega
              clear hc
              go_wp2_with fail
              go_roundw
              case rel => exact ⟨b, m, i + 1, f', rfl, rfl, by simp, HG.out, by omega, by omega, by omega, by trivial⟩
              case measure => simp [intOf]; omega
        · have hs := runE_end (z := z) (j := i + n) (by have := HZL.out; omega)
          have HS := Lib.hid (hs.symm.trans hrun.out); clear hs hrun
          have hj8i : ¬ (i : Int) + n < 8 := by omega
          by_cases hc : m < n
          · have HG := Lib.hid ((show lrHo z f' (i + 1) i n = lrHo z (f' + 1) i b m by rw [lrHo, if_pos hlt, ← HS.out, show i + n - i = n by omega, if_pos hc]).trans hg.out)
            have hc1 : (m : Int) < n := by omega
            clear hc
            go_wp2_with fail
            go_roundw
            case rel => exact ⟨i, n, i + 1, f', rfl, rfl, by simp, HG.out, by omega, by omega, by omega, by trivial⟩
            case measure => simp [intOf]; omega
          · have HG := Lib.hid ((show lrHo z f' (i + 1) b m = lrHo z (f' + 1) i b m by rw [lrHo, if_pos hlt, ← HS.out, show i + n - i = n by omega, if_neg hc]).trans hg.out)
            have hc1 : ¬ (m : Int) < n := by omega
            clear hc
            go_wp2_with fail
            go_roundw
            case rel => exact ⟨b, m, i + 1, f', rfl, rfl, by simp, HG.out, by omega, by omega, by omega, by trivial⟩
            case measure => simp [intOf]; omega
    · have hlti : ¬ (i : Int) < 8 := by omega
      have HG := Lib.hid ((show lrHo z f i b m = (b, m) by cases f with | zero => rfl | succ f => rw [lrHo, if_neg hlt]).symm.trans hg.out)
      have hsx2 := HSX.out
      have hM := HM.out
      rw [← HG.out] at hsx2 hM
      simp only at hsx2 hM
      obtain ⟨hm1, hm8, hf8, hfm⟩ := hM
      have HSX2 := Lib.hid hsx2; clear hsx2
      have HFM := Lib.hid hfm; clear hfm
      have hm8i : (m : Int) ≤ 8 := by omega
      have hm1i : (1 : Int) ≤ m := by omega
      clear hg HG HSX hif hi8
      go_wp2_with fail
      go_loopw [7, 8] (fun sv iv wr => ∃ (i f : Nat) (l : Bytes) (c : Bool), sv = .string (bs l) ∧ iv = .int .i64 i ∧ Hid (l ++ rendA a (tokR b m f i c) = D) ∧ Hid (LastC l c) ∧ 8 ≤ i + f ∧ i ≤ 8 ∧ Hid (Below w1.heap.size w1 wr)) (fun _ i _ => 9 - (intOf i).toNat)
      case atStart => exact ⟨0, 9, [], false, rfl, rfl, HSX2.out.symm, ⟨fun h => (by cases h), fun _ => .inl rfl⟩, by omega, by omega, Below.refl _ _⟩
      case round =>
        obtain ⟨i, f, l, c, rfl, rfl, hx, hc, hif, hi8, hb⟩ := hrel
        have hll : l.length ≤ 72 := by
          have h1 := congrArg List.length hx.out
          rw [List.length_append] at h1
          have := HSL.out
          omega
        by_cases hlt : i < 8
        · obtain ⟨f', rfl⟩ : ∃ f', f = f' + 1 := ⟨f - 1, by omega⟩
          have hlti : (i : Int) < 8 := by omega
          have hx2 := hx.out
          by_cases hA : i = b
          · rw [tokR_run hlt hA, rendA_cons] at hx2
            have hx3 : (l ++ [58, 58]) ++ rendA a (tokR b m f' (i + m) false) = D := by rw [← hx2]; simp [rendT]
            have HX := Lib.hid hx3; clear hx3 hx2 hx
            have hcat := bs_app l [58, 58]
            have e58 : bs [58, 58] = ⟨#[58, 58]⟩ := rfl
            rw [e58] at hcat
            have HCT := Lib.hid hcat; clear hcat e58
            have himi : (i : Int) + m ≤ 8 := by have := HFM.out; omega
            subst hA
            go_wp2_with fail
            go_roundw
            case rel => exact ⟨i + m, f', l ++ [58, 58], false, by rw [HCT.out], by simp, HX.out, LastC.two l, by omega, by omega, hb.out⟩
            case measure => simp [intOf]; omega
          · have hia : i < a.length := by have := HLEN.out; omega
            have ci := (hb.out.cell (p := ⟨bx, i, none⟩) HBX.out).trans ((HC.out i).trans (HAT.out i hia))
            have hri := HRNG.out _ (List.getElem_mem hia)
            have hpc := rendT_piece a HLEN.out i hia
            obtain ⟨x, hx0⟩ : ∃ x, x = a[i] := ⟨_, rfl⟩
            rw [← hx0] at ci hri hpc
            obtain ⟨n, rfl⟩ : ∃ n : Nat, x = n := ⟨x.toNat, by omega⟩
            simp only [Int.toNat_natCast] at hpc
            have hn : n < 65536 := by omega
            have hxl := hexF_len 3 n (by omega)
            have hAi : ¬ (i : Int) = b := by omega
            have hhx := fun W => rhex_any n W hn
            have HHX := Lib.hid hhx; clear hhx
            clear hx0 hri hA
            cases c
            · have hcn := hc.out.no rfl
              rw [tokR_plain hlt (by omega), rendA_cons, hpc] at hx2
              have hx3 : (l ++ hexF n) ++ rendA a (tokR b m f' (i + 1) true) = D := by rw [← hx2]; simp
              have HX := Lib.hid hx3; clear hx3 hx2 hx hpc
              have hcat := bs_app l (hexF n)
              have HCT := Lib.hid hcat; clear hcat
              rcases hcn with rfl | ⟨p, rfl⟩
              · have e1 : (bs []).toList.isEmpty = true := by rw [toList_bs]; rfl
                have e2 : (bs []).toList = [] := toList_bs _
                go_wp2_with (first | (go_at_call 54; refine (HHX.out _).mono ?_; rintro e4 w4 ⟨rfl, hb4⟩; have HB4 := Lib.hid (hb.out.trans (hb4.mono hb.out.size)); clear hb4) | fail)
                go_roundw
                case rel => exact ⟨i + 1, f', [] ++ hexF n, true, by rw [HCT.out], by simp, HX.out, LastC.hex _ n, by omega, by omega, HB4.out⟩
                case measure => simp [intOf]; omega
              · obtain ⟨s, hs⟩ : ∃ s, s = bs (p ++ [58]) := ⟨_, rfl⟩
                have hsz : s.size = p.length + 1 := by rw [hs, bs_size]; simp
                obtain ⟨K, hK⟩ : ∃ K, K = p.length := ⟨_, rfl⟩
                rw [← hK] at hsz
                have hKs : K < s.size := by omega
                have hlastc : ((s[K]'hKs).toNat : Int) = b2 58 := by
                  rw [str_at hs hKs (by simp [hK])]
                  subst hK
                  simp
                have e1 : s.toList.isEmpty = false := by rw [hs, toList_bs]; simp
                have e2 : ¬ s.toList = [] := by rw [hs, toList_bs]; simp
                have hKm : K ≤ 72 := by have h9 := hll; rw [List.length_append] at h9; omega
                have hct := HCT.out
                rw [← hs] at hct ⊢
                clear HCT
                have HCT := Lib.hid hct; clear hct
                clear hs hK
                have hyi : b2 58 = 58 := rfl
                rw [hyi] at hlastc
                go_wp2_with (first | (go_at_call 54; refine (HHX.out _).mono ?_; rintro e4 w4 ⟨rfl, hb4⟩; have HB4 := Lib.hid (hb.out.trans (hb4.mono hb.out.size)); clear hb4) | fail)
                go_roundw
                case rel => exact ⟨i + 1, f', p ++ [58] ++ hexF n, true, by rw [HCT.out], by simp, HX.out, LastC.hex _ n, by omega, by omega, HB4.out⟩
                case measure => simp [intOf]; omega
            · obtain ⟨p, y, rfl, hy⟩ := hc.out.yes rfl
              rw [tokR_colon hlt (by omega), rendA_cons, rendA_cons, hpc] at hx2
              have hx3 : (p ++ [y] ++ [58] ++ hexF n) ++ rendA a (tokR b m f' (i + 1) true) = D := by rw [← hx2]; simp [rendT]
              have HX := Lib.hid hx3; clear hx3 hx2 hx hpc
              have hcat := bs_app (p ++ [y] ++ [58]) (hexF n)
              rw [← bs_app (p ++ [y]) [58]] at hcat
              have e58 : bs [58] = ⟨#[58]⟩ := rfl
              rw [e58] at hcat
              clear e58
              obtain ⟨s, hs⟩ : ∃ s, s = bs (p ++ [y]) := ⟨_, rfl⟩
              have hsz : s.size = p.length + 1 := by rw [hs, bs_size]; simp
              obtain ⟨K, hK⟩ : ∃ K, K = p.length := ⟨_, rfl⟩
              rw [← hK] at hsz
              have hKs : K < s.size := by omega
              have hlastc : ((s[K]'hKs).toNat : Int) = b2 y := by
                rw [str_at hs hKs (by simp [hK])]
                subst hK
                simp
              have e1 : s.toList.isEmpty = false := by rw [hs, toList_bs]; simp
              have e2 : ¬ s.toList = [] := by rw [hs, toList_bs]; simp
              have hKm : K ≤ 72 := by have h9 := hll; rw [List.length_append] at h9; omega
              rw [← hs] at hcat ⊢
              clear hs hK
              have HCT := Lib.hid hcat; clear hcat
              have hyi : ¬ b2 y = 58 := fun h => hy (by apply UInt8.toNat_inj.mp; have : (y.toNat : Int) = 58 := h; have h2 : (58 : UInt8).toNat = 58 := rfl; omega)
              generalize b2 y = Y at hlastc hyi
              clear hy
              go_wp2_with (first | (go_at_call 54; refine (HHX.out _).mono ?_; rintro e4 w4 ⟨rfl, hb4⟩; have HB4 := Lib.hid (hb.out.trans (hb4.mono hb.out.size)); clear hb4) | fail)
              go_roundw
              case rel => exact ⟨i + 1, f', p ++ [y] ++ [58] ++ hexF n, true, by rw [HCT.out], by simp, HX.out, LastC.hex _ n, by omega, by omega, HB4.out⟩
              case measure => simp [intOf]; omega
        · have hlti : ¬ (i : Int) < 8 := by omega
          have hx2 := hx.out
          rw [tokR_end hlt] at hx2
          have hx3 : l = D := by rw [← hx2]; simp [rendA]
          subst hx3
          go_wp2_with fail
          go_ret
          exact ⟨rfl, HB.out.trans (hb.out.mono HB.out.size)⟩
end Go.Proofs.YtcmpjklkdmpglaaDoor
