/- The walk of HostAddress. -/
import Derived.Test.YtgfklkfbccknoaaGreatDoorGHlwA
namespace Go.Proofs.YtgfklkfbccknoaaGreatDoor
open Go.RowKit
set_option maxRecDepth 10000

theorem br_tail (a : List Int) (sp : Bool) : hostP ([91] ++ sixF a ++ [93, 97]) sp = none := by
  unfold hostP
  rw [if_pos (by rfl)]
  show brF (sixF a ++ [93, 97]) = _
  unfold brF
  rw [show sixF a ++ [93, 97] = (sixF a ++ [93]) ++ [97] by simp, suf_snoc, if_neg (by simp)]
theorem six_of (l : List Int) (h8 : l.length = 8) (hr : ∀ x ∈ l, 0 ≤ x ∧ x < 65536) : Six (U16s l).toArray l :=
  (hstAt_of (h := { H0 with six := l }) ⟨by simp [H0], by simp [H0], h8, hr⟩).six_at
set_option maxHeartbeats 40000000 in
theorem hostAddress_walk (n : Int) (l : List Int) (sp : Bool) (w : World) (hn : (Lit.int .u32 n).wf = true) (h8 : l.length = 8) (hr : ∀ x ∈ l, 0 ≤ x ∧ x < 65536) (hE : Env w) (hN : NE w) :
    Calls Tryz.prog 6 #[.int .u32 n, .agg (U16s l).toArray, .bool sp] w fun e w' => e = .returned (.bool true) ∧ Below w.heap.size w w' := by
  have hb := bounds_u32 hn
  obtain ⟨m, rfl⟩ : ∃ m : Nat, n = m := ⟨n.toNat, by omega⟩
  have hm : m < 4294967296 := by omega
  have HSM := Lib.hid (fun (W : World) (hW : Below w.heap.size w W) => small11_any W (hE.below hW) (hN.below hW))
  have HFW := Lib.hid (fun (W : World) (hW : Below w.heap.size w W) => fwrite_any m hm W (hN.below hW))
  have HSX := Lib.hid (fun (W : World) (hW : Below w.heap.size w W) => swrite_any l _ W (six_of l h8 hr) (hN.below hW))
  have hfl := fourF_len m hm
  have hsl := sixF_len l hr
  have hp1 := fun (W : World) (hW : Below w.heap.size w W) => hparse_any (fourF m) sp W (short_of (by omega)) (hE.below hW)
  have hp2 := fun (W : World) (hW : Below w.heap.size w W) => hparse_any ([91] ++ sixF l ++ [93]) sp W (short_of (by simp only [List.length_append, List.length_cons, List.length_nil]; omega)) (hE.below hW)
  have hp3 := fun (W : World) (hW : Below w.heap.size w W) => hparse_any ([91] ++ sixF l ++ [93, 97]) sp W (short_of (by simp only [List.length_append, List.length_cons, List.length_nil]; omega)) (hE.below hW)
  rw [br_back h8 hr] at hp2
  rw [br_tail] at hp3
  have hb4 := bldH4 l h8
  obtain ⟨G6, hG6⟩ : ∃ G : Hst, G = { H0 with kind := 4, six := l } := ⟨_, rfl⟩
  have hG68 : G6.six.length = 8 := by rw [hG6]; exact h8
  rw [← hG6] at hp2 hb4
  have e1 : (⟨#[91]⟩ : ByteArray) ++ bs (sixF l) = bs ([91] ++ sixF l) := by show bs [91] ++ bs (sixF l) = _; rw [bs_app]
  have e2 : bs ([91] ++ sixF l) ++ (⟨#[93]⟩ : ByteArray) = bs ([91] ++ sixF l ++ [93]) := by show bs ([91] ++ sixF l) ++ bs [93] = _; rw [bs_app]
  have e3 : bs ([91] ++ sixF l) ++ (⟨#[93, 97]⟩ : ByteArray) = bs ([91] ++ sixF l ++ [93, 97]) := by show bs ([91] ++ sixF l) ++ bs [93, 97] = _; rw [bs_app]
  have hz6 : (bs (sixF l)).size ≤ 72 := by rw [bs_size]; exact hsl
  have hzu : (bs ([91] ++ sixF l)).size ≤ 73 := by rw [bs_size]; simp only [List.length_append, List.length_cons, List.length_nil]; omega
  obtain ⟨u3, hu3⟩ : ∃ u, u = bs ([91] ++ sixF l ++ [93, 97]) := ⟨_, rfl⟩
  rw [← hu3] at e3 hp3
  obtain ⟨u2, hu2⟩ : ∃ u, u = bs ([91] ++ sixF l ++ [93]) := ⟨_, rfl⟩
  rw [← hu2] at e2 hp2
  obtain ⟨u1, hu1⟩ : ∃ u, u = bs ([91] ++ sixF l) := ⟨_, rfl⟩
  rw [← hu1] at e1 e2 e3 hzu
  obtain ⟨X6, hX6⟩ : ∃ u, u = bs (sixF l) := ⟨_, rfl⟩
  rw [← hX6] at e1 hz6
  replace HSX := Lib.hid (show ∀ W, Below w.heap.size w W → Calls Tryz.prog 18 #[.agg (U16s l).toArray] W fun e w' => e = .returned (.string X6) ∧ Below W.heap.size W w' from by rw [hX6]; exact HSX.out)
  have h5 := bldH5 (fourF m)
  obtain ⟨X4, hX4⟩ : ∃ u, u = bs (fourF m) := ⟨_, rfl⟩
  rw [← hX4] at h5 hp1
  replace HFW := Lib.hid (show ∀ W, Below w.heap.size w W → Calls Tryz.prog 17 #[.int .u32 m] W fun e w' => e = .returned (.string X4) ∧ Below W.heap.size W w' from by rw [hX4]; exact HFW.out)
  obtain ⟨G5, hG5⟩ : ∃ G : Hst, G = { H0 with kind := 5, name := fourF m } := ⟨_, rfl⟩
  have hG58 : G5.six.length = 8 := by rw [hG5]; rfl
  rw [← hG5] at h5
  have h3 := bldH3 (m : Int)
  obtain ⟨G3, hG3⟩ : ∃ G : Hst, G = { H0 with kind := 3, four := (m : Int) } := ⟨_, rfl⟩
  have hG38 : G3.six.length = 8 := by rw [hG3]; rfl
  rw [← hG3] at h3
  have HP2 := Lib.hid (show ∀ W, Below w.heap.size w W → Calls Tryz.prog 11 #[.string u2, .bool sp] W fun e w' => e = .returned (.tuple #[.agg (hCells G6), .bool true]) ∧ Below W.heap.size W w' from hp2)
  have HP3 := Lib.hid (show ∀ W, Below w.heap.size w W → Calls Tryz.prog 11 #[.string u3, .bool sp] W fun e w' => e = .returned (.tuple #[.agg (hCells H0), .bool false]) ∧ Below W.heap.size W w' from hp3)
  obtain ⟨C6, hC6⟩ : ∃ C : Array Value, C = (U16s l).toArray := ⟨_, rfl⟩
  have HL8 := Lib.hid h8
  have HB4 := Lib.hid hb4; have HB5 := Lib.hid h5; have HB3' := Lib.hid h3; have HG68 := Lib.hid hG68; have HG58 := Lib.hid hG58; have HG38 := Lib.hid hG38
  have hq5 : sp = false → hostP (fourF m) sp = some G5 := fun e => by rw [e, hG5]; exact fourO_back hm
  have hq3 : sp = true → hostP (fourF m) sp = some G3 := fun e => by rw [e, hG3]; exact fourH_back hm
  clear hp2 hp3 hb4 h5 h3 hG68 hG58 hG38 hG6 hu1 hu2 hu3 hX6 hX4 hG5 hG3 hE hN hfl hsl hb hn hm h8 hr hC6 C6
  cases sp with
  | false =>
    rw [hq5 rfl] at hp1
    have HP1 := Lib.hid (show ∀ W, Below w.heap.size w W → Calls Tryz.prog 11 #[.string X4, .bool false] W fun e w' => e = .returned (.tuple #[.agg (hCells G5), .bool true]) ∧ Below W.heap.size W w' from hp1)
    clear hp1 hq5 hq3
    go_enter Tryz.func6, Tryz.ntmps6
    go_upto_region 1 with (first
      | (refine boxed rfl _ _ rfl (U16s l).toArray rfl ?_; intro bu w2 hb1 hb2 hb3 hb4 hb5; have HRX := Lib.hid (show ∀ W, Below w2.heap.size w2 W → W.rangeAt bu 0 (U16s l) from fun W hW j v hj => by rw [Nat.zero_add, hW.cell (p := ⟨bu, j, none⟩) hb2, hb4 j, List.getElem?_toArray]; exact hj); have HB2 := Lib.hid hb5; clear hb1 hb2 hb3 hb4 hb5)
      | fail)
    go_upto_region 2 with (first
      | (go_at_call 10; refine (HSM.out _ HB2.out).mono ?_; rintro e w3 ⟨rfl, hb⟩; have HS3 := Lib.hid hb; clear hb)
      | fail)
    have HB3 := Lib.hid (stp HB2.out HS3.out)
    go_upto_region 3 with (first
      | (go_at_call 17; refine (HFW.out _ HB3.out).mono ?_; rintro e x1 ⟨rfl, hb⟩; have HY1 := Lib.hid hb; clear hb)
      | (go_at_call 11; refine (HP1.out _ (stp HB3.out HY1.out)).mono ?_; rintro e x2 ⟨rfl, hb⟩; have HY2 := Lib.hid (stp HY1.out hb); clear hb)
      | (refine alloc_to rfl 26 rfl _ _ (allH _) ?_)
      | (refine storeH rfl (.tmp 8) (.tmp 21) rfl G5 HG58.out rfl rfl rfl ?_; intro W4 hh hb; have HH1 := Lib.hid hh; have HS4 := Lib.hid (stp HY2.out hb); clear hh hb)
      | fail)
    have HBB4 := Lib.hid (stp HB3.out HS4.out)
    have HR4 := Lib.hid (HRX.out _ (stp HS3.out HS4.out))
    go_upto_region 4 with (first
      | (go_at_call 18; refine (HSX.out _ HBB4.out).mono ?_; rintro e x3 ⟨rfl, hb⟩; have HY3 := Lib.hid hb; clear hb)
      | (go_at_call 11; refine (HP2.out _ (stp HBB4.out HY3.out)).mono ?_; rintro e x4 ⟨rfl, hb⟩; have HY4 := Lib.hid (stp HY3.out hb); clear hb)
      | (refine load6 (by rfl) (.tmp 4) rfl bu 0 l HL8.out HR4.out rfl ?_)
      | (refine alloc_to rfl 26 rfl _ _ (allH _) ?_)
      | (refine storeH rfl (.tmp 10) (.tmp 30) rfl G6 HG68.out rfl rfl rfl ?_; intro W5 hh hb; have HH2 := Lib.hid hh; have HS5 := Lib.hid (stp HY4.out hb); clear hh hb)
      | fail)
    have HBB5 := Lib.hid (stp HBB4.out HS5.out)
    have HR5 := Lib.hid (HRX.out _ (stp HS3.out (stp HS4.out HS5.out)))
    go_upto_region 5 with (first
      | (go_at_call 18; refine (HSX.out _ HBB5.out).mono ?_; rintro e x5 ⟨rfl, hb⟩; have HY5 := Lib.hid hb; clear hb)
      | (go_at_call 11; refine (HP3.out _ (stp HBB5.out HY5.out)).mono ?_; rintro e x6 ⟨rfl, hb⟩; have HY6 := Lib.hid (stp HY5.out hb); clear hb)
      | (refine load6 (by rfl) (.tmp 4) rfl bu 0 l HL8.out HR5.out rfl ?_)
      | (refine alloc_to rfl 26 rfl _ _ (allH _) ?_)
      | (refine storeH rfl (.tmp 12) (.tmp 39) rfl H0 rfl rfl rfl rfl ?_; intro W6 hh hb; have HS6 := Lib.hid (stp HY6.out hb); clear hh hb)
      | fail)
    have HBB6 := Lib.hid (stp HBB5.out HS6.out)
    go_upto_region 6 with (first
      | (go_at_call 17; refine (HFW.out _ HBB6.out).mono ?_; rintro e x7 ⟨rfl, hb⟩; have HY7 := Lib.hid hb; clear hb)
      | (refine build2 rfl 0 1 (.const (.int .i64 5)) (.tmp 42) rfl (.int .i64 5) (.string X4) (.agg (hCells G5)) rfl rfl HB5.out ?_)
      | (refine alloc_to rfl 26 rfl _ _ (allH _) ?_)
      | (refine storeH rfl (.tmp 14) (.tmp 43) rfl G5 HG58.out rfl rfl rfl ?_; intro W7 hh hb; have HI7 := Lib.hid (show InB x7 x7.heap.size G5 W7 from ⟨hh.a, hh.l, hb⟩); clear hh hb)
      | fail)
    go_upto_region 8 with fail
    have HS7 := Lib.hid (stp HY7.out HI7.out.bel)
    have HF14 := Lib.hid (show HB W7 x7.heap.size G5 from ⟨HI7.out.a, HI7.out.l⟩)
    have HF8 := Lib.hid (HH1.out.keep (stp HS5.out (stp HS6.out HS7.out)))
    have HF10 := Lib.hid (HH2.out.keep (stp HS6.out HS7.out))
    have HRF := Lib.hid (HRX.out _ (stp HS3.out (stp HS4.out (stp HS5.out (stp HS6.out HS7.out)))))
    have HBF := Lib.hid (stp HBB6.out HS7.out)
    clear HB2 HS3 HB3 HY1 HY2 HS4 HBB4 HR4 HY3 HY4 HS5 HBB5 HR5 HY5 HY6 HS6 HBB6 HY7 HI7 HRX HH1 HH2
    go_wp2_with (first
      | (refine loadH (by rfl) (.tmp 8) rfl _ G5 HF8.out rfl ?_)
      | (refine loadH (by rfl) (.tmp 14) rfl _ G5 HF14.out rfl ?_)
      | (refine loadH (by rfl) (.tmp 10) rfl _ G6 HF10.out rfl ?_)
      | (refine load6 (by rfl) (.tmp 4) rfl bu 0 l HL8.out HRF.out rfl ?_)
      | (refine bld2_w (by rfl) 0 3 (.const (.int .i64 4)) (.tmp 65) rfl (.int .i64 4) (.agg (U16s l).toArray) G6 rfl rfl HB4.out ?_)
      | (refine eqH (by rfl) (.tmp 59) (.tmp 60) rfl G5 HG58.out rfl rfl ?_)
      | (refine eqH (by rfl) (.tmp 64) (.tmp 66) rfl G6 HG68.out rfl rfl ?_)
      | fail)
    go_ret
    exact ⟨ret1_bool (by simp), HBF.out⟩
  | true =>
    rw [hq3 rfl] at hp1
    have HP1 := Lib.hid (show ∀ W, Below w.heap.size w W → Calls Tryz.prog 11 #[.string X4, .bool true] W fun e w' => e = .returned (.tuple #[.agg (hCells G3), .bool true]) ∧ Below W.heap.size W w' from hp1)
    clear hp1 hq5 hq3
    go_enter Tryz.func6, Tryz.ntmps6
    go_upto_region 1 with (first
      | (refine boxed rfl _ _ rfl (U16s l).toArray rfl ?_; intro bu w2 hb1 hb2 hb3 hb4 hb5; have HRX := Lib.hid (show ∀ W, Below w2.heap.size w2 W → W.rangeAt bu 0 (U16s l) from fun W hW j v hj => by rw [Nat.zero_add, hW.cell (p := ⟨bu, j, none⟩) hb2, hb4 j, List.getElem?_toArray]; exact hj); have HB2 := Lib.hid hb5; clear hb1 hb2 hb3 hb4 hb5)
      | fail)
    go_upto_region 2 with (first
      | (go_at_call 10; refine (HSM.out _ HB2.out).mono ?_; rintro e w3 ⟨rfl, hb⟩; have HS3 := Lib.hid hb; clear hb)
      | fail)
    have HB3 := Lib.hid (stp HB2.out HS3.out)
    go_upto_region 3 with (first
      | (go_at_call 17; refine (HFW.out _ HB3.out).mono ?_; rintro e x1 ⟨rfl, hb⟩; have HY1 := Lib.hid hb; clear hb)
      | (go_at_call 11; refine (HP1.out _ (stp HB3.out HY1.out)).mono ?_; rintro e x2 ⟨rfl, hb⟩; have HY2 := Lib.hid (stp HY1.out hb); clear hb)
      | (refine alloc_to rfl 26 rfl _ _ (allH _) ?_)
      | (refine storeH rfl (.tmp 8) (.tmp 21) rfl G3 HG38.out rfl rfl rfl ?_; intro W4 hh hb; have HH1 := Lib.hid hh; have HS4 := Lib.hid (stp HY2.out hb); clear hh hb)
      | fail)
    have HBB4 := Lib.hid (stp HB3.out HS4.out)
    have HR4 := Lib.hid (HRX.out _ (stp HS3.out HS4.out))
    go_upto_region 4 with (first
      | (go_at_call 18; refine (HSX.out _ HBB4.out).mono ?_; rintro e x3 ⟨rfl, hb⟩; have HY3 := Lib.hid hb; clear hb)
      | (go_at_call 11; refine (HP2.out _ (stp HBB4.out HY3.out)).mono ?_; rintro e x4 ⟨rfl, hb⟩; have HY4 := Lib.hid (stp HY3.out hb); clear hb)
      | (refine load6 (by rfl) (.tmp 4) rfl bu 0 l HL8.out HR4.out rfl ?_)
      | (refine alloc_to rfl 26 rfl _ _ (allH _) ?_)
      | (refine storeH rfl (.tmp 10) (.tmp 30) rfl G6 HG68.out rfl rfl rfl ?_; intro W5 hh hb; have HH2 := Lib.hid hh; have HS5 := Lib.hid (stp HY4.out hb); clear hh hb)
      | fail)
    have HBB5 := Lib.hid (stp HBB4.out HS5.out)
    have HR5 := Lib.hid (HRX.out _ (stp HS3.out (stp HS4.out HS5.out)))
    go_upto_region 5 with (first
      | (go_at_call 18; refine (HSX.out _ HBB5.out).mono ?_; rintro e x5 ⟨rfl, hb⟩; have HY5 := Lib.hid hb; clear hb)
      | (go_at_call 11; refine (HP3.out _ (stp HBB5.out HY5.out)).mono ?_; rintro e x6 ⟨rfl, hb⟩; have HY6 := Lib.hid (stp HY5.out hb); clear hb)
      | (refine load6 (by rfl) (.tmp 4) rfl bu 0 l HL8.out HR5.out rfl ?_)
      | (refine alloc_to rfl 26 rfl _ _ (allH _) ?_)
      | (refine storeH rfl (.tmp 12) (.tmp 39) rfl H0 rfl rfl rfl rfl ?_; intro W6 hh hb; have HS6 := Lib.hid (stp HY6.out hb); clear hh hb)
      | fail)
    have HBB6 := Lib.hid (stp HBB5.out HS6.out)
    go_upto_region 6 with (first
      | (go_at_call 17; refine (HFW.out _ HBB6.out).mono ?_; rintro e x7 ⟨rfl, hb⟩; have HY7 := Lib.hid hb; clear hb)
      | (refine build2 rfl 0 1 (.const (.int .i64 5)) (.tmp 42) rfl (.int .i64 5) (.string X4) (.agg (hCells G5)) rfl rfl HB5.out ?_)
      | (refine alloc_to rfl 26 rfl _ _ (allH _) ?_)
      | (refine storeH rfl (.tmp 14) (.tmp 43) rfl G5 HG58.out rfl rfl rfl ?_; intro W7 hh hb; have HI7 := Lib.hid (show InB x7 x7.heap.size G5 W7 from ⟨hh.a, hh.l, hb⟩); clear hh hb)
      | fail)
    go_upto_region 8 with (first
      | (refine build2 rfl 0 2 (.const (.int .i64 3)) (.tmp 45) rfl (.int .i64 3) (.int .u32 m) (.agg (hCells G3)) rfl rfl HB3'.out ?_)
      | (refine put_host rfl (.tmp 14) (.tmp 46) rfl x7 x7.heap.size _ G3 HI7.out (Nat.le_refl _) HG38.out rfl rfl ?_; intro W8 i8; have HI8 := Lib.hid i8; clear i8)
      | fail)
    have HS7 := Lib.hid (stp HY7.out HI8.out.bel)
    have HF14 := Lib.hid (show HB W8 x7.heap.size G3 from ⟨HI8.out.a, HI8.out.l⟩)
    have HF8 := Lib.hid (HH1.out.keep (stp HS5.out (stp HS6.out HS7.out)))
    have HF10 := Lib.hid (HH2.out.keep (stp HS6.out HS7.out))
    have HRF := Lib.hid (HRX.out _ (stp HS3.out (stp HS4.out (stp HS5.out (stp HS6.out HS7.out)))))
    have HBF := Lib.hid (stp HBB6.out HS7.out)
    clear HB2 HS3 HB3 HY1 HY2 HS4 HBB4 HR4 HY3 HY4 HS5 HBB5 HR5 HY5 HY6 HS6 HBB6 HY7 HI7 HRX HH1 HH2
    go_wp2_with (first
      | (refine loadH (by rfl) (.tmp 8) rfl _ G3 HF8.out rfl ?_)
      | (refine loadH (by rfl) (.tmp 14) rfl _ G3 HF14.out rfl ?_)
      | (refine loadH (by rfl) (.tmp 10) rfl _ G6 HF10.out rfl ?_)
      | (refine load6 (by rfl) (.tmp 4) rfl bu 0 l HL8.out HRF.out rfl ?_)
      | (refine bld2_w (by rfl) 0 3 (.const (.int .i64 4)) (.tmp 65) rfl (.int .i64 4) (.agg (U16s l).toArray) G6 rfl rfl HB4.out ?_)
      | (refine eqH (by rfl) (.tmp 59) (.tmp 60) rfl G3 HG38.out rfl rfl ?_)
      | (refine eqH (by rfl) (.tmp 64) (.tmp 66) rfl G6 HG68.out rfl rfl ?_)
      | fail)
    go_ret
    exact ⟨ret1_bool (by simp), HBF.out⟩
end Go.Proofs.YtgfklkfbccknoaaGreatDoor
