/- The walk of ParseApart. -/
import Derived.Test.YtjgenpooedkfmaaGreatDoorGWlkX
namespace Go.Proofs.YtjgenpooedkfmaaGreatDoor
open Go.RowKit
set_option maxRecDepth 10000

set_option maxHeartbeats 40000000 in
theorem parseApart_walk (s t : ByteArray) (w : World) (_ : s.size ≤ maxLen) (_ : t.size ≤ maxLen) (hE : Env w) (hN : NE w) :
    Calls Tryz.prog 7 #[.string s, .string t] w fun e w' => e = .returned (.bool true) ∧ Below w.heap.size w w' := by
  have HSM := Lib.hid (small17_any w hE hN)
  have hcs : 500 < s.size ∨ (s.size ≤ 500 ∧ 500 < t.size) ∨ (s.size ≤ 500 ∧ t.size ≤ 500) := by omega
  rcases hcs with h1 | ⟨h1, h2⟩ | ⟨h1, h2⟩
  case inr.inr =>
    have hi1 : ¬ (500 : Int) < s.size := by omega
    have hi2 : ¬ (500 : Int) < t.size := by omega
    have hp := fun (W : World) (hW : Below w.heap.size w W) => uparse_any (ls s) W (by rw [ls_length]; omega) (hE.below hW)
    have hq := fun (W : World) (hW : Below w.heap.size w W) => uparse_any (ls t) W (by rw [ls_length]; omega) (hE.below hW)
    have hl1 : (ls s).length ≤ 1000 := by rw [ls_length]; omega
    have hl2 : (ls t).length ≤ 1000 := by rw [ls_length]; omega
    rw [bs_ls] at hp hq
    cases hu : readU (ls s) with
    | none =>
      rw [hu] at hp
      have HP := Lib.hid (show ∀ W, Below w.heap.size w W → Calls Tryz.prog 23 #[.string s] W fun e w' => e = .returned (.tuple #[.agg (uCells nilV U0), .bool false]) ∧ Below W.heap.size W w' from hp)
      cases hv : readU (ls t) with
      | none =>
        rw [hv] at hq
        have HQ := Lib.hid (show ∀ W, Below w.heap.size w W → Calls Tryz.prog 23 #[.string t] W fun e w' => e = .returned (.tuple #[.agg (uCells nilV U0), .bool false]) ∧ Below W.heap.size W w' from hq)
        clear hp hq hu hv hl1 hl2 hE hN
        go_enter Tryz.func7, Tryz.ntmps7
        go_wp2_with (first
          | (go_at_call 13; refine HSM.out.mono ?_; rintro e w1 ⟨rfl, hb1⟩; have HB1 := Lib.hid hb1; clear hb1)
          | (go_at_call 23; with_reducible refine (HP.out _ HB1.out).mono ?_; rintro e w2 ⟨rfl, hb⟩; have HC2 := Lib.hid hb; clear hb)
          | (go_at_call 23; with_reducible refine (HQ.out _ HB3.out).mono ?_; rintro e w4 ⟨rfl, hb⟩; have HC4 := Lib.hid hb; clear hb)
          | (refine alloc_to rfl 37 rfl _ _ (allUrl _) ?_)
          | (refine storeUrl rfl (.tmp 6) (.tmp 23) rfl nilV U0 rfl rfl rfl rfl rfl ?_; intro w3 _ hb; have HB3 := Lib.hid (stp HB1.out (stp HC2.out hb)); clear hb)
          | (refine storeUrl rfl (.tmp 8) (.tmp 28) rfl nilV U0 rfl rfl rfl rfl rfl ?_; intro w5 _ hb; have HB5 := Lib.hid (stp HB3.out (stp HC4.out hb)); clear hb)
          | fail)
        go_ret
        exact ⟨rfl, HB5.out⟩
      | some v =>
        rw [hv] at hq
        have HQ := Lib.hid (show ∀ W, Below w.heap.size w W → Calls Tryz.prog 23 #[.string t] W fun e w' => ∃ pv, e = .returned (.tuple #[.agg (uCells pv v), .bool true]) ∧ w'.ownsRow W.heap.size 9 1 pv v.path.length (Strs v.path) ∧ Below W.heap.size W w' from hq)
        have V8 := Lib.hid (uok_read hl2 hv).six
        clear hp hq hu hv hl1 hl2 hE hN
        go_enter Tryz.func7, Tryz.ntmps7
        go_wp2_with (first
          | (go_at_call 13; refine HSM.out.mono ?_; rintro e w1 ⟨rfl, hb1⟩; have HB1 := Lib.hid hb1; clear hb1)
          | (go_at_call 23; with_reducible refine (HP.out _ HB1.out).mono ?_; rintro e w2 ⟨rfl, hb⟩; have HC2 := Lib.hid hb; clear hb)
          | (go_at_call 23; with_reducible refine (HQ.out _ HB3.out).mono ?_; rintro e w4 ⟨pv, rfl, oo, hb⟩; have HC4 := Lib.hid hb; have OC4 := Lib.hid oo; clear hb oo)
          | (refine alloc_to rfl 37 rfl _ _ (allUrl _) ?_)
          | (refine storeUrl rfl (.tmp 6) (.tmp 23) rfl nilV U0 rfl rfl rfl rfl rfl ?_; intro w3 _ hb; have HB3 := Lib.hid (stp HB1.out (stp HC2.out hb)); clear hb)
          | (refine storeUrl rfl (.tmp 8) (.tmp 28) rfl pv v V8.out (own_one OC4.out) rfl rfl rfl ?_; intro w5 _ hb; have HB5 := Lib.hid (stp HB3.out (stp HC4.out hb)); clear hb)
          | fail)
        go_ret
        exact ⟨rfl, HB5.out⟩
    | some u =>
      rw [hu] at hp
      have HP := Lib.hid (show ∀ W, Below w.heap.size w W → Calls Tryz.prog 23 #[.string s] W fun e w' => ∃ pv, e = .returned (.tuple #[.agg (uCells pv u), .bool true]) ∧ w'.ownsRow W.heap.size 9 1 pv u.path.length (Strs u.path) ∧ Below W.heap.size W w' from hp)
      have UK := uok_read hl1 hu
      have U8 := Lib.hid UK.six
      cases hv : readU (ls t) with
      | none =>
        rw [hv] at hq
        have HQ := Lib.hid (show ∀ W, Below w.heap.size w W → Calls Tryz.prog 23 #[.string t] W fun e w' => e = .returned (.tuple #[.agg (uCells nilV U0), .bool false]) ∧ Below W.heap.size W w' from hq)
        clear hp hq hu hv hl1 hl2 hE hN UK
        go_enter Tryz.func7, Tryz.ntmps7
        go_wp2_with (first
          | (go_at_call 13; refine HSM.out.mono ?_; rintro e w1 ⟨rfl, hb1⟩; have HB1 := Lib.hid hb1; clear hb1)
          | (go_at_call 23; with_reducible refine (HP.out _ HB1.out).mono ?_; rintro e w2 ⟨pu, rfl, oo, hb⟩; have HC2 := Lib.hid hb; have OC2 := Lib.hid oo; clear hb oo)
          | (go_at_call 23; with_reducible refine (HQ.out _ HB3.out).mono ?_; rintro e w4 ⟨rfl, hb⟩; have HC4 := Lib.hid hb; clear hb)
          | (refine alloc_to rfl 37 rfl _ _ (allUrl _) ?_)
          | (refine storeUrl rfl (.tmp 6) (.tmp 23) rfl pu u U8.out (own_one OC2.out) rfl rfl rfl ?_; intro w3 _ hb; have HB3 := Lib.hid (stp HB1.out (stp HC2.out hb)); clear hb)
          | (refine storeUrl rfl (.tmp 8) (.tmp 28) rfl nilV U0 rfl rfl rfl rfl rfl ?_; intro w5 _ hb; have HB5 := Lib.hid (stp HB3.out (stp HC4.out hb)); clear hb)
          | fail)
        go_ret
        exact ⟨rfl, HB5.out⟩
      | some v =>
        rw [hv] at hq
        have HQ := Lib.hid (show ∀ W, Below w.heap.size w W → Calls Tryz.prog 23 #[.string t] W fun e w' => ∃ pv, e = .returned (.tuple #[.agg (uCells pv v), .bool true]) ∧ w'.ownsRow W.heap.size 9 1 pv v.path.length (Strs v.path) ∧ Below W.heap.size W w' from hq)
        have VK := uok_read hl2 hv
        have V8 := Lib.hid VK.six
        have hap := read_apart hu hv
        have hxy := sEq (serF u true) (serF v true)
        obtain ⟨q, hqq⟩ : ∃ q : Bool, q = true ↔ u = v := by
          by_cases h : u = v
          · exact ⟨true, fun _ => h, fun _ => rfl⟩
          · exact ⟨false, fun h => (by cases h), fun h2 => absurd h2 h⟩
        have hdq : decide (serF u true = serF v true) = q := by
          rw [Bool.eq_iff_iff, decide_eq_true_eq, hap, hqq]
        rw [hdq] at hxy
        have HSA := Lib.hid (fun (pu pv : Value) (W : World) (hW : Below w.heap.size w W) (o1 : W.ownsRow w.heap.size 9 1 pu u.path.length (Strs u.path)) (o2 : W.ownsRow w.heap.size 9 1 pv v.path.length (Strs v.path)) => (show Calls Tryz.prog 18 #[.agg (uCells pu u), .agg (uCells pv v)] W fun e w' => e = .returned (.bool q) ∧ Below W.heap.size W w' from by
          refine (same_any u v pu pv W (B := W.heap.size) (C := W.heap.size) UK.six VK.six (Sl.of_own (own_ts o1)) (Sl.of_own (own_ts o2)) (Nat.le_refl _) (Nat.le_refl _) (by have := UK.bs.1; omega) (by have := VK.bs.1; omega)).mono ?_
          rintro e w' ⟨q2, rfl, h2, hb⟩
          have : q2 = q := by rw [Bool.eq_iff_iff, h2, hqq]
          rw [this]
          exact ⟨rfl, hb⟩))
        obtain ⟨x, hx⟩ : ∃ x, x = bs (serF u true) := ⟨_, rfl⟩
        obtain ⟨y, hy⟩ : ∃ y, y = bs (serF v true) := ⟨_, rfl⟩
        rw [← hx, ← hy] at hxy
        have HWU := Lib.hid (fun (pu : Value) (W : World) (hW : Below w.heap.size w W) (o1 : W.ownsRow w.heap.size 9 1 pu u.path.length (Strs u.path)) => (show Calls Tryz.prog 24 #[.agg (uCells pu u), .bool true] W fun e w' => e = .returned (.string x) ∧ Below W.heap.size W w' from by rw [hx]; exact uwr_any u pu W UK (Sl.of_own (own_ts o1)) (hN.below hW)))
        have HWV := Lib.hid (fun (pv : Value) (W : World) (hW : Below w.heap.size w W) (o1 : W.ownsRow w.heap.size 9 1 pv v.path.length (Strs v.path)) => (show Calls Tryz.prog 24 #[.agg (uCells pv v), .bool true] W fun e w' => e = .returned (.string y) ∧ Below W.heap.size W w' from by rw [hy]; exact uwr_any v pv W VK (Sl.of_own (own_ts o1)) (hN.below hW)))
        clear hp hq hu hv hl1 hl2 hE hN UK VK hap hdq hqq hx hy
        go_enter Tryz.func7, Tryz.ntmps7
        go_upto_region 8 with (first
          | (go_at_call 13; refine HSM.out.mono ?_; rintro e w1 ⟨rfl, hb1⟩; have HB1 := Lib.hid hb1; clear hb1)
          | (go_at_call 23; with_reducible refine (HP.out _ HB1.out).mono ?_; rintro e w2 ⟨pu, rfl, oo, hb⟩; have HC2 := Lib.hid hb; have OC2 := Lib.hid (own_base oo HB1.out.size); clear hb oo)
          | (go_at_call 23; with_reducible refine (HQ.out _ HB3.out).mono ?_; rintro e w4 ⟨pv, rfl, oo, hb⟩; have HC4 := Lib.hid hb; have OC4 := Lib.hid (own_base oo HB3.out.size); clear hb oo)
          | (refine alloc_to rfl 37 rfl _ _ (allUrl _) ?_)
          | (refine storeUrl rfl (.tmp 6) (.tmp 23) rfl pu u U8.out (own_one OC2.out) rfl rfl rfl ?_; intro w3 hh hb; have HH3 := Lib.hid hh; have HO3 := Lib.hid (own_below' OC2.out hb); have HB3 := Lib.hid (stp HB1.out (stp HC2.out hb)); clear hh hb)
          | (refine storeUrl rfl (.tmp 8) (.tmp 28) rfl pv v V8.out (own_one OC4.out) rfl rfl rfl ?_; intro w5 hh hb; have HH5 := Lib.hid hh; have HO5 := Lib.hid (own_below' OC4.out hb); have HB5 := Lib.hid (stp HB3.out (stp HC4.out hb)); have HK3 := Lib.hid (HH3.out.keep (stp HC4.out hb)); have HP3 := Lib.hid (own_below' HO3.out (stp HC4.out hb)); clear hh hb)
          | fail)
        have HS1 := Lib.hid (fun W (hb : Below w5.heap.size w5 W) => HSA.out pu pv W (stp HB5.out hb) (own_below' HP3.out hb) (own_below' HO5.out hb))
        have HW1 := Lib.hid (fun W (hb : Below w5.heap.size w5 W) => HWU.out pu W (stp HB5.out hb) (own_below' HP3.out hb))
        have HW2 := Lib.hid (fun W (hb : Below w5.heap.size w5 W) => HWV.out pv W (stp HB5.out hb) (own_below' HO5.out hb))
        clear HSA HWU HWV HP HQ HSM HO3 HH3 HC2 HC4 OC2 OC4
        cases q with
        | true =>
          refine wp_region_held_drew (S := fun W => Below w5.heap.size w5 W) (by kernel_rfl) (by first | exact bz_drew (bz_refl _) | assumption) (fun hHeld => ?_)
          refine tk 0 (v := ?_) rfl (by kernel_rfl) (by kernel_rfl) (by kernel_rfl) (fun _ _ _ h => h) (by rfl) (by assumption) (fun wS hSw => ?_) ?_
          rotate_left
          · (try dsimp only at hSw); go_simp; first | done | with_reducible rfl   -- move
          try simp only [Act.put, List.setIfInBounds_toArray, List.set_cons_zero, List.set_cons_succ]
          refine tk 1 (v := ?_) rfl (by kernel_rfl) (by kernel_rfl) (by kernel_rfl) (fun _ _ _ h => h) (by rfl) (by assumption) (fun wS hSw => ?_) ?_
          rotate_left
          · (try dsimp only at hSw); go_simp; first | done | with_reducible rfl   -- move
          try simp only [Act.put, List.setIfInBounds_toArray, List.set_cons_zero, List.set_cons_succ]
          refine tk 2 (v := ?_) rfl (by kernel_rfl) (by kernel_rfl) (by kernel_rfl) (fun _ _ _ h => h) (by rfl) (by assumption) (fun wS hSw => ?_) ?_
          rotate_left
          · (try dsimp only at hSw)   -- load
            refine loadUrl_exec (.tmp 6) ?_ _ pu u U8.out ?_ (HK3.out.keep hSw)
            · rfl
            · rfl
          try simp only [Act.put, List.setIfInBounds_toArray, List.set_cons_zero, List.set_cons_succ]
          refine tk 3 (v := ?_) rfl (by kernel_rfl) (by kernel_rfl) (by kernel_rfl) (fun _ _ _ h => h) (by rfl) (by assumption) (fun wS hSw => ?_) ?_
          rotate_left
          · (try dsimp only at hSw)   -- load
            refine loadUrl_exec (.tmp 8) ?_ _ pv v V8.out ?_ (HH5.out.keep hSw)
            · rfl
            · rfl
          try simp only [Act.put, List.setIfInBounds_toArray, List.set_cons_zero, List.set_cons_succ]
          refine tk 5 (v := ?_) rfl (by kernel_rfl) (by kernel_rfl) (by kernel_rfl) (fun _ _ _ h => h) (by rfl) (by assumption) (fun wS hSw => ?_) ?_
          rotate_left
          · (try dsimp only at hSw)   -- load
            refine loadUrl_exec (.tmp 6) ?_ _ pu u U8.out ?_ (HK3.out.keep hSw)
            · rfl
            · rfl
          try simp only [Act.put, List.setIfInBounds_toArray, List.set_cons_zero, List.set_cons_succ]
          refine tk 7 (v := ?_) rfl (by kernel_rfl) (by kernel_rfl) (by kernel_rfl) (fun _ _ _ h => h) (by rfl) (by assumption) (fun wS hSw => ?_) ?_
          rotate_left
          · (try dsimp only at hSw)   -- load
            refine loadUrl_exec (.tmp 8) ?_ _ pv v V8.out ?_ (HH5.out.keep hSw)
            · rfl
            · rfl
          try simp only [Act.put, List.setIfInBounds_toArray, List.set_cons_zero, List.set_cons_succ]
          refine rn 4 (by kernel_rfl) rfl (by rfl) (fun K hK => ?_)
          go_simp   -- 4: call of tamis/record.Same
          refine (HS1.out _ hHeld).mono ?_
          rintro e x4 ⟨rfl, hb⟩
          have hB4 := stp hHeld hb
          clear hb
          refine hK.out _ _ ?_ (fun hHeld => ?_)
          · first | exact bz_drew (bz_refl _) | assumption
          clear hK K
          try simp only [Act.put, List.setIfInBounds_toArray, List.set_cons_zero, List.set_cons_succ]
          refine rn 6 (by kernel_rfl) rfl (by rfl) (fun K hK => ?_)
          go_simp   -- 6: call of tamis/serial.Write
          refine (HW1.out _ hHeld).mono ?_
          rintro e x6 ⟨rfl, hb⟩
          have hB6 := stp hHeld hb
          clear hb
          refine hK.out _ _ ?_ (fun hHeld => ?_)
          · first | exact bz_drew (bz_refl _) | assumption
          clear hK K
          try simp only [Act.put, List.setIfInBounds_toArray, List.set_cons_zero, List.set_cons_succ]
          refine rn 8 (by kernel_rfl) rfl (by rfl) (fun K hK => ?_)
          go_simp   -- 8: call of tamis/serial.Write
          refine (HW2.out _ hHeld).mono ?_
          rintro e x8 ⟨rfl, hb⟩
          have hB8 := stp hHeld hb
          clear hb
          refine hK.out _ _ ?_ (fun hHeld => ?_)
          · first | exact bz_drew (bz_refl _) | assumption
          clear hK K
          try simp only [Act.put, List.setIfInBounds_toArray, List.set_cons_zero, List.set_cons_succ]
          refine tk 9 (v := ?_) rfl (by kernel_rfl) (by kernel_rfl) (by kernel_rfl) (fun _ _ _ h => h) (by rfl) (by assumption) (fun wS hSw => ?_) ?_
          rotate_left
          · (try dsimp only at hSw); go_simp; first | done | with_reducible rfl   -- binOp
          try simp only [Act.put, List.setIfInBounds_toArray, List.set_cons_zero, List.set_cons_succ]
          refine tk 10 (v := ?_) rfl (by kernel_rfl) (by kernel_rfl) (by kernel_rfl) (fun _ _ _ h => h) (by rfl) (by assumption) (fun wS hSw => ?_) ?_
          rotate_left
          · (try dsimp only at hSw); go_simp; first | done | with_reducible rfl   -- binOp
          try simp only [Act.put, List.setIfInBounds_toArray, List.set_cons_zero, List.set_cons_succ]
          refine tk 11 (v := ?_) rfl (by kernel_rfl) (by kernel_rfl) (by kernel_rfl) (fun _ _ _ h => h) (by rfl) (by assumption) (fun wS hSw => ?_) ?_
          rotate_left
          · (try dsimp only at hSw); go_simp; first | done | with_reducible rfl   -- pick
          try simp only [Act.put, List.setIfInBounds_toArray, List.set_cons_zero, List.set_cons_succ]
          refine tk 12 (v := ?_) rfl (by kernel_rfl) (by kernel_rfl) (by kernel_rfl) (fun _ _ _ h => h) (by rfl) (by assumption) (fun wS hSw => ?_) ?_
          rotate_left
          · (try dsimp only at hSw); go_simp; first | done | with_reducible rfl   -- assign
          try simp only [Act.put, List.setIfInBounds_toArray, List.set_cons_zero, List.set_cons_succ]
          refine wpAnyH_done (by kernel_rfl) ?_ _
          go_wp2_with fail
          go_ret
          exact ⟨ret1_bool (by simp), stp HB5.out (by assumption)⟩
        | false =>
          refine wp_region_held_drew (S := fun W => Below w5.heap.size w5 W) (by kernel_rfl) (by first | exact bz_drew (bz_refl _) | assumption) (fun hHeld => ?_)
          refine tk 0 (v := ?_) rfl (by kernel_rfl) (by kernel_rfl) (by kernel_rfl) (fun _ _ _ h => h) (by rfl) (by assumption) (fun wS hSw => ?_) ?_
          rotate_left
          · (try dsimp only at hSw); go_simp; first | done | with_reducible rfl   -- move
          try simp only [Act.put, List.setIfInBounds_toArray, List.set_cons_zero, List.set_cons_succ]
          refine tk 1 (v := ?_) rfl (by kernel_rfl) (by kernel_rfl) (by kernel_rfl) (fun _ _ _ h => h) (by rfl) (by assumption) (fun wS hSw => ?_) ?_
          rotate_left
          · (try dsimp only at hSw); go_simp; first | done | with_reducible rfl   -- move
          try simp only [Act.put, List.setIfInBounds_toArray, List.set_cons_zero, List.set_cons_succ]
          refine tk 2 (v := ?_) rfl (by kernel_rfl) (by kernel_rfl) (by kernel_rfl) (fun _ _ _ h => h) (by rfl) (by assumption) (fun wS hSw => ?_) ?_
          rotate_left
          · (try dsimp only at hSw)   -- load
            refine loadUrl_exec (.tmp 6) ?_ _ pu u U8.out ?_ (HK3.out.keep hSw)
            · rfl
            · rfl
          try simp only [Act.put, List.setIfInBounds_toArray, List.set_cons_zero, List.set_cons_succ]
          refine tk 3 (v := ?_) rfl (by kernel_rfl) (by kernel_rfl) (by kernel_rfl) (fun _ _ _ h => h) (by rfl) (by assumption) (fun wS hSw => ?_) ?_
          rotate_left
          · (try dsimp only at hSw)   -- load
            refine loadUrl_exec (.tmp 8) ?_ _ pv v V8.out ?_ (HH5.out.keep hSw)
            · rfl
            · rfl
          try simp only [Act.put, List.setIfInBounds_toArray, List.set_cons_zero, List.set_cons_succ]
          refine tk 5 (v := ?_) rfl (by kernel_rfl) (by kernel_rfl) (by kernel_rfl) (fun _ _ _ h => h) (by rfl) (by assumption) (fun wS hSw => ?_) ?_
          rotate_left
          · (try dsimp only at hSw)   -- load
            refine loadUrl_exec (.tmp 6) ?_ _ pu u U8.out ?_ (HK3.out.keep hSw)
            · rfl
            · rfl
          try simp only [Act.put, List.setIfInBounds_toArray, List.set_cons_zero, List.set_cons_succ]
          refine tk 7 (v := ?_) rfl (by kernel_rfl) (by kernel_rfl) (by kernel_rfl) (fun _ _ _ h => h) (by rfl) (by assumption) (fun wS hSw => ?_) ?_
          rotate_left
          · (try dsimp only at hSw)   -- load
            refine loadUrl_exec (.tmp 8) ?_ _ pv v V8.out ?_ (HH5.out.keep hSw)
            · rfl
            · rfl
          try simp only [Act.put, List.setIfInBounds_toArray, List.set_cons_zero, List.set_cons_succ]
          refine rn 4 (by kernel_rfl) rfl (by rfl) (fun K hK => ?_)
          go_simp   -- 4: call of tamis/record.Same
          refine (HS1.out _ hHeld).mono ?_
          rintro e x4 ⟨rfl, hb⟩
          have hB4 := stp hHeld hb
          clear hb
          refine hK.out _ _ ?_ (fun hHeld => ?_)
          · first | exact bz_drew (bz_refl _) | assumption
          clear hK K
          try simp only [Act.put, List.setIfInBounds_toArray, List.set_cons_zero, List.set_cons_succ]
          refine rn 6 (by kernel_rfl) rfl (by rfl) (fun K hK => ?_)
          go_simp   -- 6: call of tamis/serial.Write
          refine (HW1.out _ hHeld).mono ?_
          rintro e x6 ⟨rfl, hb⟩
          have hB6 := stp hHeld hb
          clear hb
          refine hK.out _ _ ?_ (fun hHeld => ?_)
          · first | exact bz_drew (bz_refl _) | assumption
          clear hK K
          try simp only [Act.put, List.setIfInBounds_toArray, List.set_cons_zero, List.set_cons_succ]
          refine rn 8 (by kernel_rfl) rfl (by rfl) (fun K hK => ?_)
          go_simp   -- 8: call of tamis/serial.Write
          refine (HW2.out _ hHeld).mono ?_
          rintro e x8 ⟨rfl, hb⟩
          have hB8 := stp hHeld hb
          clear hb
          refine hK.out _ _ ?_ (fun hHeld => ?_)
          · first | exact bz_drew (bz_refl _) | assumption
          clear hK K
          try simp only [Act.put, List.setIfInBounds_toArray, List.set_cons_zero, List.set_cons_succ]
          refine tk 9 (v := ?_) rfl (by kernel_rfl) (by kernel_rfl) (by kernel_rfl) (fun _ _ _ h => h) (by rfl) (by assumption) (fun wS hSw => ?_) ?_
          rotate_left
          · (try dsimp only at hSw); go_simp; first | done | with_reducible rfl   -- binOp
          try simp only [Act.put, List.setIfInBounds_toArray, List.set_cons_zero, List.set_cons_succ]
          refine tk 10 (v := ?_) rfl (by kernel_rfl) (by kernel_rfl) (by kernel_rfl) (fun _ _ _ h => h) (by rfl) (by assumption) (fun wS hSw => ?_) ?_
          rotate_left
          · (try dsimp only at hSw); go_simp; first | done | with_reducible rfl   -- binOp
          try simp only [Act.put, List.setIfInBounds_toArray, List.set_cons_zero, List.set_cons_succ]
          refine tk 11 (v := ?_) rfl (by kernel_rfl) (by kernel_rfl) (by kernel_rfl) (fun _ _ _ h => h) (by rfl) (by assumption) (fun wS hSw => ?_) ?_
          rotate_left
          · (try dsimp only at hSw); go_simp; first | done | with_reducible rfl   -- pick
          try simp only [Act.put, List.setIfInBounds_toArray, List.set_cons_zero, List.set_cons_succ]
          refine tk 12 (v := ?_) rfl (by kernel_rfl) (by kernel_rfl) (by kernel_rfl) (fun _ _ _ h => h) (by rfl) (by assumption) (fun wS hSw => ?_) ?_
          rotate_left
          · (try dsimp only at hSw); go_simp; first | done | with_reducible rfl   -- assign
          try simp only [Act.put, List.setIfInBounds_toArray, List.set_cons_zero, List.set_cons_succ]
          refine wpAnyH_done (by kernel_rfl) ?_ _
          go_wp2_with fail
          go_ret
          exact ⟨ret1_bool (by simp), stp HB5.out (by assumption)⟩
  all_goals
    clear hE hN
    first
      | have hi1 : (500 : Int) < s.size := by omega
      | (have hi1 : ¬ (500 : Int) < s.size := by omega
         have hi2 : (500 : Int) < t.size := by omega)
    go_enter Tryz.func7, Tryz.ntmps7
    go_wp2_with (first
      | (go_at_call 13; refine HSM.out.mono ?_; rintro e w1 ⟨rfl, hb1⟩; have HB1 := Lib.hid hb1; clear hb1)
      | fail)
    go_ret
    exact ⟨rfl, HB1.out⟩
end Go.Proofs.YtjgenpooedkfmaaGreatDoor
