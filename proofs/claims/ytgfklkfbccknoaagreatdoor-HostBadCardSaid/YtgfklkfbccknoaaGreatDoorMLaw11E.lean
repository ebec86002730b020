/- The walk of HostBad. -/
import Derived.Test.YtgfklkfbccknoaaGreatDoorGHlwA
import Derived.Test.YtgfklkfbccknoaaGreatDoorGReg
namespace Go.Proofs.YtgfklkfbccknoaaGreatDoor
open Go.RowKit
set_option maxRecDepth 10000

theorem allocH_wp {o : Oper} {a : Act} {w : World} {K : Act → World → Prop} {Q : Exit → Act → World → Prop} (ho : o.op = .alloc 26)
    (h : ∀ w', HB w' w.heap.size H0 → Below w.heap.size w w' → K (a.put o.dst (.pointer (some ⟨w.heap.size, 0, none⟩))) w') : o.wp Tryz.prog a w K Q := by
  unfold Oper.wp execOp
  simp only [ho, Sem.run_bind, Sem.run_pure, Result.andThen_ok, allH]
  exact h _ (HB.new w H0 rfl) ((Below.refl _ _).alloc (Nat.le_refl _) _)
theorem putH_wp {o : Oper} {a : Act} {w : World} {K : Act → World → Prop} {Q : Exit → Act → World → Prop} (x y : Operand) (ho : o.op = .store 26 x y)
    (w0 : World) (b : Nat) (h g : Hst) (i : InB w0 b h w) (hb : w0.heap.size ≤ b) (hl : g.six.length = 8) (hx : a.eval x = .pointer (some ⟨b, 0, none⟩)) (hy : a.eval y = .agg (hCells g))
    (k : ∀ w', InB w0 b g w' → K (a.put o.dst undef) w') : o.wp Tryz.prog a w K Q := by
  refine wp_store_row _ x y ho b (hCells g) hx hy _ _ i.a (hsize g hl) ?_ (honec g) (k _ (i.put hb hl))
  simp [hstCells, i.l, hl]
theorem hexd_at : ∀ k : Fin 16, (⟨#[48, 49, 50, 51, 52, 53, 54, 55, 56, 57, 97, 98, 99, 100, 101, 102]⟩ : ByteArray).extract k.val (k.val + 1) = bs [hexd k.val] := by decide +kernel
set_option maxHeartbeats 40000000 in
theorem hostBad_walk (s1 : ByteArray) (c : Int) (s2 : ByteArray) (sp : Bool) (w : World) (_ : s1.size ≤ maxLen) (hcw : (Lit.int .u8 c).wf = true) (_ : s2.size ≤ maxLen) (hE : Env w) (hN : NE w) :
    Calls Tryz.prog 7 #[.string s1, .int .u8 c, .string s2, .bool sp] w fun e w' => e = .returned (.bool true) ∧ Below w.heap.size w w' := by
  have hc := bounds_u8 hcw
  have HSM := Lib.hid (small11_any w hE hN)
  have HBD := Lib.hid (fun W => bad_any c W)
  by_cases hb1 : 100 < s1.size
  · clear hE hN
    go_enter Tryz.func7, Tryz.ntmps7
    go_wp2_with fail
    refine (HSM.out).mono ?_
    rintro e w1 ⟨rfl, hb1⟩
    have HB1 := Lib.hid hb1; clear hb1
    go_wp2_with fail
    go_ret
    exact ⟨rfl, HB1.out⟩
  have hb1' : ¬ ((100 : Int) < s1.size) := by omega
  by_cases hb2 : 100 < s2.size
  · clear hE hN
    go_enter Tryz.func7, Tryz.ntmps7
    go_wp2_with fail
    refine (HSM.out).mono ?_
    rintro e w1 ⟨rfl, hb1⟩
    have HB1 := Lib.hid hb1; clear hb1
    go_wp2_with fail
    go_ret
    exact ⟨rfl, HB1.out⟩
  have hb2' : ¬ ((100 : Int) < s2.size) := by omega
  cases hbc : badF c with
  | false =>
    rw [hbc] at HBD
    clear hE hN hbc
    go_enter Tryz.func7, Tryz.ntmps7
    go_wp2_with fail
    refine (HSM.out).mono ?_
    rintro e w1 ⟨rfl, hb1⟩
    have HB1 := Lib.hid hb1; clear hb1
    go_wp2_with (first | (go_at_call 15; refine (HBD.out _).mono ?_; rintro e w4 ⟨rfl, hw4⟩; subst hw4) | fail)
    go_ret
    exact ⟨rfl, HB1.out⟩
  | true =>
    rw [hbc] at HBD
    by_cases hnil : ls s1 = []
    · have he2 : s1.toList = [] := by rw [← bs_ls s1, toList_bs]; exact hnil
      have he : s1.toList.isEmpty = true := by rw [he2]; rfl
      clear hE hN hnil hbc
      go_enter Tryz.func7, Tryz.ntmps7
      go_wp2_with fail
      refine (HSM.out).mono ?_
      rintro e w1 ⟨rfl, hb1⟩
      have HB1 := Lib.hid hb1; clear hb1
      go_wp2_with (first | (go_at_call 15; refine (HBD.out _).mono ?_; rintro e w4 ⟨rfl, hw4⟩; subst hw4) | fail)
      go_ret
      exact ⟨rfl, HB1.out⟩
    have he2 : ¬ s1.toList = [] := fun h => hnil (by rw [← bs_ls s1, toList_bs] at h; exact h)
    have he : s1.toList.isEmpty = false := by simpa using he2
    obtain ⟨A, hA⟩ : ∃ l, l = ls s1 := ⟨_, rfl⟩
    obtain ⟨B, hB⟩ : ∃ l, l = ls s2 := ⟨_, rfl⟩
    have hs1 : s1 = bs A := by rw [hA, bs_ls]
    have hs2 : s2 = bs B := by rw [hB, bs_ls]
    rw [← hA] at hnil
    have hz1 : s1.size = A.length := by rw [hs1, bs_size]
    have hz2 : s2.size = B.length := by rw [hs2, bs_size]
    have hz0 : 0 < s1.size := by
      rw [hz1]
      cases A with
      | nil => exact absurd rfl hnil
      | cons x r => simp
    have hl0 : 0 < A.length := by omega
    have hx0 : ((s1[0]'hz0).toNat : Int) = b2 (A[0]'hl0) := str_at hs1 hz0 hl0
    have hh : b2 (A[0]'hl0) = 91 ↔ A.head? = some 91 := by
      have key : ∀ (l : Bytes) (h : 0 < l.length), b2 (l[0]'h) = 91 ↔ l.head? = some 91 := fun l h => by
        cases l with
        | nil => simp at h
        | cons x r =>
          simp only [List.getElem_cons_zero, List.head?_cons, Option.some.injEq]
          exact ⟨fun h => b2_inj (y := 91) (h.trans (by decide)), fun h => by rw [h]; decide⟩
      exact key A hl0
    generalize b2 (A[0]'hl0) = X0 at hx0 hh
    by_cases hX0 : X0 = 91
    · subst hX0
      clear hE hN hnil hbc hh hs1 hs2 hA hB hz1 hz2
      go_enter Tryz.func7, Tryz.ntmps7
      go_wp2_with fail
      refine (HSM.out).mono ?_
      rintro e w1 ⟨rfl, hb1⟩
      have HB1 := Lib.hid hb1; clear hb1
      go_wp2_with (first | (go_at_call 15; refine (HBD.out _).mono ?_; rintro e w4 ⟨rfl, hw4⟩; subst hw4) | fail)
      go_ret
      exact ⟨rfl, HB1.out⟩
    have hX0q : (X0 == 91) = false := by simpa using hX0
    have h91 : A.head? ≠ some 91 := fun h => hX0 (hh.mpr h)
    obtain ⟨ch, hch⟩ : ∃ ch, ch = UInt8.ofNat c.toNat := ⟨_, rfl⟩
    have hbch : b2 ch = c := by rw [hch]; exact b2_of (by omega)
    have hbad : badF (b2 ch) = true := by rw [hbch]; exact hbc
    obtain ⟨q, hq⟩ : ∃ q, q = c.toNat / 16 := ⟨_, rfl⟩
    obtain ⟨r, hr⟩ : ∃ r, r = c.toNat % 16 := ⟨_, rfl⟩
    have hq16 : q < 16 := by omega
    have hr16 : r < 16 := by omega
    have hd1 := hexd_dgt ⟨q, hq16⟩
    have hd2 := hexd_dgt ⟨r, hr16⟩
    simp only at hd1 hd2
    have hpv : UInt8.ofNat (pdV (hexd q) (hexd r)).toNat = ch := by
      unfold pdV
      rw [hd1, hd2, hch]
      congr 1
      omega
    have hn1 := bad_plain (b := B) hbad hnil h91 sp
    have hn2 := bad_coded (b := B) hbad hnil h91 (u := hexd q) (v := hexd r) (by rw [hd1]; omega) (by rw [hd2]; omega) hpv
    have hp1 := fun (W : World) (hW : Below w.heap.size w W) => hparse_any (A ++ ch :: B) sp W (short_of (by rw [List.length_append, List.length_cons]; omega)) (hE.below hW)
    have hp2 := fun (W : World) (hW : Below w.heap.size w W) => hparse_any (A ++ 37 :: hexd q :: hexd r :: B) true W (short_of (by rw [List.length_append]; simp only [List.length_cons]; omega)) (hE.below hW)
    rw [hn1] at hp1
    rw [hn2] at hp2
    have g1 := hexd_at ⟨q, hq16⟩
    have g2 := hexd_at ⟨r, hr16⟩
    simp only at g1 g2
    have ht : Int.tdiv c 16 = (q : Int) := by rw [hq]; have h := (Int.ofNat_tdiv c.toNat 16).symm; rw [Int.toNat_of_nonneg (by omega)] at h; exact h
    have hm : Int.tmod c 16 = (r : Int) := by rw [hr]; have h := (Int.ofNat_tmod c.toNat 16).symm; rw [Int.toNat_of_nonneg (by omega)] at h; exact h
    obtain ⟨Q1, hQ1⟩ : ∃ Q1, Q1 = q + 1 := ⟨_, rfl⟩
    obtain ⟨R1, hR1⟩ : ∃ R1, R1 = r + 1 := ⟨_, rfl⟩
    rw [← hQ1] at g1
    rw [← hR1] at g2
    have hwq : IntKind.u8.wrap (q : Int) = (q : Int) := by rw [IntKind.wrap_u8]; omega
    have hwr : IntKind.u8.wrap (r : Int) = (r : Int) := by rw [IntKind.wrap_u8]; omega
    have hwq1 : IntKind.u8.wrap ((q : Int) + 1) = (Q1 : Int) := by rw [IntKind.wrap_u8]; omega
    have hwr1 : IntKind.u8.wrap ((r : Int) + 1) = (R1 : Int) := by rw [IntKind.wrap_u8]; omega
    have k1 : q ≤ Q1 := by omega
    have k2 : Q1 ≤ 16 := by omega
    have k3 : r ≤ R1 := by omega
    have k4 : R1 ≤ 16 := by omega
    have k5 : (Q1 : Int) ≤ 16 := by omega
    have k6 : (R1 : Int) ≤ 16 := by omega
    obtain ⟨D1, hD1⟩ : ∃ D, D = bs [hexd q] := ⟨_, rfl⟩
    obtain ⟨D2, hD2⟩ : ∃ D, D = bs [hexd r] := ⟨_, rfl⟩
    have z1 : D1.size = 1 := by rw [hD1, bs_size]; rfl
    have z2 : D2.size = 1 := by rw [hD2, bs_size]; rfl
    rw [← hD1] at g1
    rw [← hD2] at g2
    obtain ⟨X, hX⟩ : ∃ X, X = bs [ch] := ⟨_, rfl⟩
    have zX : X.size = 1 := by rw [hX, bs_size]; rfl
    have hcv : ∀ W : World, (convert 37 9 (.slice (some ⟨W.heap.size, 0, none⟩) 1 1)).run Tryz.prog (W.alloc (.cells #[.int .u8 c] 5)) = .ok (.string X) (W.alloc (.cells #[.int .u8 c] 5)) := fun W => by
      rw [hX, hch]
      exact conv1 Tryz.underlying37 Tryz.underlying5 Tryz.underlying9 c (by omega) W
    obtain ⟨y1, hy1⟩ : ∃ v, v = s1 ++ X := ⟨_, rfl⟩
    obtain ⟨y2, hy2⟩ : ∃ v, v = y1 ++ s2 := ⟨_, rfl⟩
    obtain ⟨v1, hv1⟩ : ∃ v, v = s1 ++ (⟨#[37]⟩ : ByteArray) := ⟨_, rfl⟩
    obtain ⟨v2, hv2⟩ : ∃ v, v = v1 ++ D1 := ⟨_, rfl⟩
    obtain ⟨v3, hv3⟩ : ∃ v, v = v2 ++ D2 := ⟨_, rfl⟩
    obtain ⟨v4, hv4⟩ : ∃ v, v = v3 ++ s2 := ⟨_, rfl⟩
    have f37 : (⟨#[37]⟩ : ByteArray).size = 1 := rfl
    have zy1 : y1.size ≤ 101 := by rw [hy1, ByteArray.size_append]; omega
    have zv1 : v1.size ≤ 101 := by rw [hv1, ByteArray.size_append]; omega
    have zv2 : v2.size ≤ 102 := by rw [hv2, ByteArray.size_append]; omega
    have zv3 : v3.size ≤ 103 := by rw [hv3, ByteArray.size_append]; omega
    have n1 : ¬ 9223372036854775807 < s1.size + 1 := by omega
    have n2 : ¬ 9223372036854775807 < y1.size + s2.size := by omega
    have n3 : ¬ 9223372036854775807 < v1.size + 1 := by omega
    have n4 : ¬ 9223372036854775807 < v2.size + 1 := by omega
    have n5 : ¬ 9223372036854775807 < v3.size + s2.size := by omega
    have ey : y2 = bs (A ++ ch :: B) := by
      rw [hy2, hy1, hs1, hs2, hX, bs_app, bs_app]
      congr 1
      simp
    have ev : v4 = bs (A ++ 37 :: hexd q :: hexd r :: B) := by
      rw [hv4, hv3, hv2, hv1, hs1, hs2, hD1, hD2, show (⟨#[37]⟩ : ByteArray) = bs [37] from rfl, bs_app, bs_app, bs_app, bs_app]
      congr 1
      simp
    rw [← ey] at hp1
    rw [← ev] at hp2
    have HP1 := Lib.hid (show ∀ W, Below w.heap.size w W → Calls Tryz.prog 11 #[.string y2, .bool sp] W fun e w' => e = .returned (.tuple #[.agg (hCells H0), .bool false]) ∧ Below W.heap.size W w' from hp1)
    have HP2 := Lib.hid (show ∀ W, Below w.heap.size w W → Calls Tryz.prog 11 #[.string v4, .bool true] W fun e w' => e = .returned (.tuple #[.agg (hCells H0), .bool false]) ∧ Below W.heap.size W w' from hp2)
    have e1 := hy1.symm
    have e2 := hy2.symm
    have e3 := hv1.symm
    have e4 := hv2.symm
    have e5 := hv3.symm
    have e6 := hv4.symm
    have HQ1 := Lib.hid hQ1; have HR1 := Lib.hid hR1
    clear hp1 hp2 hn1 hn2 hy1 hy2 hv1 hv2 hv3 hv4 ey ev hE hN hX hD1 hD2 hpv hd1 hd2 hch hbch hbad hbc hh h91 hs1 hs2 hz1 hz2 hA hB hnil hq hr hQ1 hR1 hl0 hcw
    go_enter Tryz.func7, Tryz.ntmps7
    go_wp2_with fail
    refine (HSM.out).mono ?_
    rintro e w1 ⟨rfl, hb1⟩
    have HB1 := Lib.hid hb1; clear hb1
    go_upto_region 6 with (first | (go_at_call 15; refine (HBD.out _).mono ?_; rintro e w4 ⟨rfl, hw4⟩; subst hw4) | fail)
    have HB2 := Lib.hid (show Below w.heap.size w (w4.alloc (.cells #[.int .u8 c] 5)) from HB1.out.alloc HB1.out.size _)
    go_upto_region 7 with (first
      | (go_at_call 11; refine (HP1.out _ HB2.out).mono ?_; rintro e x1 ⟨rfl, hb⟩; have HY1 := Lib.hid (stp HB2.out hb); clear hb)
      | (refine alloc_to rfl 26 rfl _ _ (allH _) ?_)
      | (refine storeH rfl (.tmp 12) (.tmp 51) rfl H0 rfl rfl rfl rfl ?_; intro w5 hh hb; have HB5 := Lib.hid (stp HY1.out hb); clear hh hb)
      | fail)
    refine wp_region_held_drew (S := fun _ => True) (by kernel_rfl) (by exact trivial) (fun hHeld => ?_)
    refine tk 0 (v := ?_) rfl (by kernel_rfl) (by kernel_rfl) (by kernel_rfl) (fun _ _ _ h => h) (by rfl) (by assumption) (fun wS hSw => ?_) ?_
    rotate_left
    · (try dsimp only at hSw); go_simp; first | done | with_reducible rfl   -- move
    try simp only [Act.put, List.setIfInBounds_toArray, List.set_cons_zero, List.set_cons_succ]
    refine tk 1 (v := ?_) rfl (by kernel_rfl) (by kernel_rfl) (by kernel_rfl) (fun _ _ _ h => h) (by rfl) (by assumption) (fun wS hSw => ?_) ?_
    rotate_left
    · (try dsimp only at hSw); go_simp; first | done | with_reducible rfl   -- binOp
    try simp only [Act.put, List.setIfInBounds_toArray, List.set_cons_zero, List.set_cons_succ]
    refine tk 2 (v := ?_) rfl (by kernel_rfl) (by kernel_rfl) (by kernel_rfl) (fun _ _ _ h => h) (by rfl) (by assumption) (fun wS hSw => ?_) ?_
    rotate_left
    · (try dsimp only at hSw); go_simp; first | done | with_reducible rfl   -- move
    try simp only [Act.put, List.setIfInBounds_toArray, List.set_cons_zero, List.set_cons_succ]
    refine tk 3 (v := ?_) rfl (by kernel_rfl) (by kernel_rfl) (by kernel_rfl) (fun _ _ _ h => h) (by rfl) (by assumption) (fun wS hSw => ?_) ?_
    rotate_left
    · (try dsimp only at hSw); go_simp; first | done | with_reducible rfl   -- move
    try simp only [Act.put, List.setIfInBounds_toArray, List.set_cons_zero, List.set_cons_succ]
    refine tk 4 (v := ?_) rfl (by kernel_rfl) (by kernel_rfl) (by kernel_rfl) (fun _ _ _ h => h) (by rfl) (by assumption) (fun wS hSw => ?_) ?_
    rotate_left
    · (try dsimp only at hSw); go_simp; first | done | with_reducible rfl   -- binOp
    try simp only [Act.put, List.setIfInBounds_toArray, List.set_cons_zero, List.set_cons_succ]
    refine tk 5 (v := ?_) rfl (by kernel_rfl) (by kernel_rfl) (by kernel_rfl) (fun _ _ _ h => h) (by rfl) (by assumption) (fun wS hSw => ?_) ?_
    rotate_left
    · (try dsimp only at hSw); go_simp; first | done | with_reducible rfl   -- move
    try simp only [Act.put, List.setIfInBounds_toArray, List.set_cons_zero, List.set_cons_succ]
    refine tk 6 (v := ?_) rfl (by kernel_rfl) (by kernel_rfl) (by kernel_rfl) (fun _ _ _ h => h) (by rfl) (by assumption) (fun wS hSw => ?_) ?_
    rotate_left
    · (try dsimp only at hSw); go_simp; first | done | with_reducible rfl   -- binOp
    try simp only [Act.put, List.setIfInBounds_toArray, List.set_cons_zero, List.set_cons_succ]
    refine tk 7 (v := ?_) rfl (by kernel_rfl) (by kernel_rfl) (by kernel_rfl) (fun _ _ _ h => h) (by rfl) (by assumption) (fun wS hSw => ?_) ?_
    rotate_left
    · (try dsimp only at hSw); go_simp; first | done | with_reducible rfl   -- binOp
    try simp only [Act.put, List.setIfInBounds_toArray, List.set_cons_zero, List.set_cons_succ]
    refine tk 8 (v := ?_) rfl (by kernel_rfl) (by kernel_rfl) (by kernel_rfl) (fun _ _ _ h => h) (by rfl) (by assumption) (fun wS hSw => ?_) ?_
    rotate_left
    · (try dsimp only at hSw); go_simp; first | done | with_reducible rfl   -- slice
    try simp only [Act.put, List.setIfInBounds_toArray, List.set_cons_zero, List.set_cons_succ]
    refine tk 9 (v := ?_) rfl (by kernel_rfl) (by kernel_rfl) (by kernel_rfl) (fun _ _ _ h => h) (by rfl) (by assumption) (fun wS hSw => ?_) ?_
    rotate_left
    · (try dsimp only at hSw); go_simp; first | done | with_reducible rfl   -- binOp
    try simp only [Act.put, List.setIfInBounds_toArray, List.set_cons_zero, List.set_cons_succ]
    refine tk 10 (v := ?_) rfl (by kernel_rfl) (by kernel_rfl) (by kernel_rfl) (fun _ _ _ h => h) (by rfl) (by assumption) (fun wS hSw => ?_) ?_
    rotate_left
    · (try dsimp only at hSw); go_simp; first | done | with_reducible rfl   -- move
    try simp only [Act.put, List.setIfInBounds_toArray, List.set_cons_zero, List.set_cons_succ]
    refine tk 11 (v := ?_) rfl (by kernel_rfl) (by kernel_rfl) (by kernel_rfl) (fun _ _ _ h => h) (by rfl) (by assumption) (fun wS hSw => ?_) ?_
    rotate_left
    · (try dsimp only at hSw); go_simp; first | done | with_reducible rfl   -- move
    try simp only [Act.put, List.setIfInBounds_toArray, List.set_cons_zero, List.set_cons_succ]
    refine tk 12 (v := ?_) rfl (by kernel_rfl) (by kernel_rfl) (by kernel_rfl) (fun _ _ _ h => h) (by rfl) (by assumption) (fun wS hSw => ?_) ?_
    rotate_left
    · (try dsimp only at hSw); go_simp; first | done | with_reducible rfl   -- binOp
    try simp only [Act.put, List.setIfInBounds_toArray, List.set_cons_zero, List.set_cons_succ]
    refine tk 13 (v := ?_) rfl (by kernel_rfl) (by kernel_rfl) (by kernel_rfl) (fun _ _ _ h => h) (by rfl) (by assumption) (fun wS hSw => ?_) ?_
    rotate_left
    · (try dsimp only at hSw); go_simp; first | done | with_reducible rfl   -- move
    try simp only [Act.put, List.setIfInBounds_toArray, List.set_cons_zero, List.set_cons_succ]
    refine tk 14 (v := ?_) rfl (by kernel_rfl) (by kernel_rfl) (by kernel_rfl) (fun _ _ _ h => h) (by rfl) (by assumption) (fun wS hSw => ?_) ?_
    rotate_left
    · (try dsimp only at hSw); go_simp; first | done | with_reducible rfl   -- binOp
    try simp only [Act.put, List.setIfInBounds_toArray, List.set_cons_zero, List.set_cons_succ]
    refine tk 15 (v := ?_) rfl (by kernel_rfl) (by kernel_rfl) (by kernel_rfl) (fun _ _ _ h => h) (by rfl) (by assumption) (fun wS hSw => ?_) ?_
    rotate_left
    · (try dsimp only at hSw); go_simp; first | done | with_reducible rfl   -- binOp
    try simp only [Act.put, List.setIfInBounds_toArray, List.set_cons_zero, List.set_cons_succ]
    refine tk 16 (v := ?_) rfl (by kernel_rfl) (by kernel_rfl) (by kernel_rfl) (fun _ _ _ h => h) (by rfl) (by assumption) (fun wS hSw => ?_) ?_
    rotate_left
    · (try dsimp only at hSw); go_simp; first | done | with_reducible rfl   -- slice
    try simp only [Act.put, List.setIfInBounds_toArray, List.set_cons_zero, List.set_cons_succ]
    refine tk 17 (v := ?_) rfl (by kernel_rfl) (by kernel_rfl) (by kernel_rfl) (fun _ _ _ h => h) (by rfl) (by assumption) (fun wS hSw => ?_) ?_
    rotate_left
    · (try dsimp only at hSw); go_simp; first | done | with_reducible rfl   -- binOp
    try simp only [Act.put, List.setIfInBounds_toArray, List.set_cons_zero, List.set_cons_succ]
    refine tk 18 (v := ?_) rfl (by kernel_rfl) (by kernel_rfl) (by kernel_rfl) (fun _ _ _ h => h) (by rfl) (by assumption) (fun wS hSw => ?_) ?_
    rotate_left
    · (try dsimp only at hSw); go_simp; first | done | with_reducible rfl   -- move
    try simp only [Act.put, List.setIfInBounds_toArray, List.set_cons_zero, List.set_cons_succ]
    refine tk 19 (v := ?_) rfl (by kernel_rfl) (by kernel_rfl) (by kernel_rfl) (fun _ _ _ h => h) (by rfl) (by assumption) (fun wS hSw => ?_) ?_
    rotate_left
    · (try dsimp only at hSw); go_simp; first | done | with_reducible rfl   -- binOp
    try simp only [Act.put, List.setIfInBounds_toArray, List.set_cons_zero, List.set_cons_succ]
    refine rn2 20 24 (by kernel_rfl) rfl (by rfl) ?_ rfl (by rfl) ?_
    · intro K hK
      go_simp   -- 20: call of tamis/host.Parse
      refine (HP2.out _ HB5.out.drew).mono ?_
      rintro e x1 ⟨rfl, hb⟩
      have HC1 := Lib.hid hb; clear hb
      dsimp only
      refine hK.out _ _ ?_ (fun hHeld => ?_)
      · exact trivial
      clear hK K
      try simp only [Act.put, List.setIfInBounds_toArray, List.set_cons_zero, List.set_cons_succ]
      refine tk 21 (v := ?_) rfl (by kernel_rfl) (by kernel_rfl) (by kernel_rfl) (fun _ _ _ h => h) (by rfl) (by assumption) (fun wS hSw => ?_) ?_
      rotate_left
      · (try dsimp only at hSw); go_simp; first | done | with_reducible rfl   -- move
      try simp only [Act.put, List.setIfInBounds_toArray, List.set_cons_zero, List.set_cons_succ]
      refine tk 22 (v := ?_) rfl (by kernel_rfl) (by kernel_rfl) (by kernel_rfl) (fun _ _ _ h => h) (by rfl) (by assumption) (fun wS hSw => ?_) ?_
      rotate_left
      · (try dsimp only at hSw); go_simp; first | done | with_reducible rfl   -- extract
      try simp only [Act.put, List.setIfInBounds_toArray, List.set_cons_zero, List.set_cons_succ]
      refine tk 23 (v := ?_) rfl (by kernel_rfl) (by kernel_rfl) (by kernel_rfl) (fun _ _ _ h => h) (by rfl) (by assumption) (fun wS hSw => ?_) ?_
      rotate_left
      · (try dsimp only at hSw); go_simp; first | done | with_reducible rfl   -- extract
      try simp only [Act.put, List.setIfInBounds_toArray, List.set_cons_zero, List.set_cons_succ]
      refine rn 24 (by kernel_rfl) rfl (by rfl) (fun K hK => ?_)
      refine allocH_wp rfl ?_
      intro W1 h1 b1
      have HI1 := Lib.hid (show InB x1 x1.heap.size H0 W1 from ⟨h1.a, h1.l, b1⟩)
      clear h1 b1
      refine hK.out _ _ ?_ (fun hHeld => ?_)
      · exact trivial
      clear hK K
      try simp only [Act.put, List.setIfInBounds_toArray, List.set_cons_zero, List.set_cons_succ]
      refine rn 25 (by kernel_rfl) rfl (by rfl) (fun K hK => ?_)
      refine putH_wp (.tmp 14) (.tmp 75) rfl x1 x1.heap.size H0 H0 HI1.out (Nat.le_refl _) rfl rfl rfl ?_
      intro W2 i2
      have HI2 := Lib.hid i2; clear i2
      refine hK.out _ _ ?_ (fun hHeld => ?_)
      · exact trivial
      clear hK K
      try simp only [Act.put]
      refine tk 26 (v := ?_) rfl (by kernel_rfl) (by kernel_rfl) (by kernel_rfl) (fun _ _ _ h => h) (by rfl) (by assumption) (fun wS hSw => ?_) ?_
      rotate_left
      · (try dsimp only at hSw); go_simp; first | done | with_reducible rfl   -- assign
      try simp only [Act.put, List.setIfInBounds_toArray, List.set_cons_zero, List.set_cons_succ]
      refine wpAnyH_done (by kernel_rfl) ?_ _
      go_wp2_with fail
      go_ret
      exact ⟨ret1_bool (by simp), HB5.out.drew.trans ((HC1.out.trans (HI2.out.bel.mono HC1.out.size)).mono HB5.out.drew.size)⟩
    · intro K hK
      refine allocH_wp rfl ?_
      intro W1 h1 b1
      have HI1 := Lib.hid (show InB w5.drew w5.drew.heap.size H0 W1 from ⟨h1.a, h1.l, b1⟩)
      clear h1 b1
      refine hK.out _ _ ?_ (fun hHeld => ?_)
      · exact trivial
      clear hK K
      try simp only [Act.put, List.setIfInBounds_toArray, List.set_cons_zero, List.set_cons_succ]
      refine rn 20 (by kernel_rfl) rfl (by rfl) (fun K hK => ?_)
      go_simp   -- 20: call of tamis/host.Parse
      refine (HP2.out _ (HB5.out.drew.trans (HI1.out.bel.mono HB5.out.drew.size))).mono ?_
      rintro e x1 ⟨rfl, hb⟩
      have HI2 := Lib.hid (HI1.out.below (Nat.le_refl _) hb); clear hb
      dsimp only
      refine hK.out _ _ ?_ (fun hHeld => ?_)
      · exact trivial
      clear hK K
      try simp only [Act.put, List.setIfInBounds_toArray, List.set_cons_zero, List.set_cons_succ]
      refine tk 21 (v := ?_) rfl (by kernel_rfl) (by kernel_rfl) (by kernel_rfl) (fun _ _ _ h => h) (by rfl) (by assumption) (fun wS hSw => ?_) ?_
      rotate_left
      · (try dsimp only at hSw); go_simp; first | done | with_reducible rfl   -- move
      try simp only [Act.put, List.setIfInBounds_toArray, List.set_cons_zero, List.set_cons_succ]
      refine tk 22 (v := ?_) rfl (by kernel_rfl) (by kernel_rfl) (by kernel_rfl) (fun _ _ _ h => h) (by rfl) (by assumption) (fun wS hSw => ?_) ?_
      rotate_left
      · (try dsimp only at hSw); go_simp; first | done | with_reducible rfl   -- extract
      try simp only [Act.put, List.setIfInBounds_toArray, List.set_cons_zero, List.set_cons_succ]
      refine tk 23 (v := ?_) rfl (by kernel_rfl) (by kernel_rfl) (by kernel_rfl) (fun _ _ _ h => h) (by rfl) (by assumption) (fun wS hSw => ?_) ?_
      rotate_left
      · (try dsimp only at hSw); go_simp; first | done | with_reducible rfl   -- extract
      try simp only [Act.put, List.setIfInBounds_toArray, List.set_cons_zero, List.set_cons_succ]
      refine rn 25 (by kernel_rfl) rfl (by rfl) (fun K hK => ?_)
      refine putH_wp (.tmp 14) (.tmp 75) rfl w5.drew w5.drew.heap.size H0 H0 HI2.out (Nat.le_refl _) rfl rfl rfl ?_
      intro W2 i2
      have HI3 := Lib.hid i2; clear i2
      refine hK.out _ _ ?_ (fun hHeld => ?_)
      · exact trivial
      clear hK K
      try simp only [Act.put]
      refine tk 26 (v := ?_) rfl (by kernel_rfl) (by kernel_rfl) (by kernel_rfl) (fun _ _ _ h => h) (by rfl) (by assumption) (fun wS hSw => ?_) ?_
      rotate_left
      · (try dsimp only at hSw); go_simp; first | done | with_reducible rfl   -- assign
      try simp only [Act.put, List.setIfInBounds_toArray, List.set_cons_zero, List.set_cons_succ]
      refine wpAnyH_done (by kernel_rfl) ?_ _
      go_wp2_with fail
      go_ret
      exact ⟨ret1_bool (by simp), HB5.out.drew.trans (HI3.out.bel.mono HB5.out.drew.size)⟩
end Go.Proofs.YtgfklkfbccknoaaGreatDoor
