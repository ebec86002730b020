/- The walk of HostAny. -/
import Derived.Test.YtgfklkfbccknoaaGreatDoorGHlwA
import Derived.Test.YtgfklkfbccknoaaGreatDoorGReg
namespace Go.Proofs.YtgfklkfbccknoaaGreatDoor
open Go.RowKit
set_option maxRecDepth 10000

theorem any_step (l : Bytes) {k : Nat} (hk : k < l.length) : (l.take (k + 1)).any (fun x => badF (b2 x)) = ((l.take k).any (fun x => badF (b2 x)) || badF (b2 l[k])) := by
  rw [List.take_succ_eq_append_getElem hk, List.any_append]
  simp
theorem opaq_none {s : Bytes} (hs : s.head? ≠ some 91) (h : s ≠ []) (hb : (s.any fun x => badF (b2 x)) = true) : hostP s false = none := by
  unfold hostP
  rw [if_neg hs, if_neg (by simp), if_neg h, if_pos hb]
theorem br_kind {s : Bytes} {sp : Bool} {G : Hst} (hs : s.head? = some 91) (h : hostP s sp = some G) : G.kind = 4 := by
  cases hkind h with
  | six a h8 ha _ => rfl
  | name n e hs2 _ _ _ _ => exact absurd hs hs2
  | four n e hs2 _ => exact absurd hs hs2
  | empty e h2 => rw [h2] at hs; cases hs
  | opaq e hs2 _ _ => exact absurd hs hs2
set_option maxHeartbeats 40000000 in
theorem hostAny_walk (s : ByteArray) (w : World) (_ : s.size ≤ maxLen) (hE : Env w) (hN : NE w) :
    Calls Tryz.prog 8 #[.string s] w fun e w' => e = .returned (.bool true) ∧ Below w.heap.size w w' := by
  have HSM := Lib.hid (small11_any w hE hN)
  by_cases hbig : 300 < s.size
  · clear hE hN
    go_enter Tryz.func8, Tryz.ntmps8
    go_wp2_with fail
    refine (HSM.out).mono ?_
    rintro e w1 ⟨rfl, hb1⟩
    have HB1 := Lib.hid hb1; clear hb1
    go_wp2_with fail
    go_ret
    exact ⟨rfl, HB1.out⟩
  have hbig2 : ¬ ((300 : Int) < s.size) := by omega
  by_cases hnil : ls s = []
  · have he2 : s.toList = [] := by rw [← bs_ls s, toList_bs]; exact hnil
    have he : s.toList.isEmpty = true := by rw [he2]; rfl
    clear hE hN hnil
    go_enter Tryz.func8, Tryz.ntmps8
    go_wp2_with fail
    refine (HSM.out).mono ?_
    rintro e w1 ⟨rfl, hb1⟩
    have HB1 := Lib.hid hb1; clear hb1
    go_wp2_with fail
    go_ret
    exact ⟨rfl, HB1.out⟩
  have he2 : ¬ s.toList = [] := fun h => hnil (by rw [← bs_ls s, toList_bs] at h; exact h)
  have he : s.toList.isEmpty = false := by simpa using he2
  have HP := Lib.hid (fun (W : World) (hW : Below w.heap.size w W) => hp_small s false (by omega) hE hW)
  obtain ⟨l, hl⟩ : ∃ l, l = ls s := ⟨_, rfl⟩
  have hs : s = bs l := by rw [hl, bs_ls]
  rw [← hl] at HP hnil
  have hsz : s.size = l.length := by rw [hs, bs_size]
  have hz0 : 0 < s.size := by
    rw [hsz]
    cases l with
    | nil => exact absurd rfl hnil
    | cons x r => simp
  have hpe := fun (W : World) => pencode_any 0 l W (by omega)
  rw [← hs] at hpe
  have hby : ∀ k (hk : k < s.size) (hk2 : k < l.length), ((s[k]'hk).toNat : Int) = b2 l[k] := fun k hk hk2 => str_at hs hk hk2
  have h00 : ((s[0]'hz0).toNat : Int) = 91 ↔ l.head? = some 91 := by
    rw [hby 0 hz0 (by omega)]
    cases l with
    | nil => exact absurd rfl hnil
    | cons x r =>
      simp only [List.getElem_cons_zero, List.head?_cons, Option.some.injEq]
      exact ⟨fun h => b2_inj (y := 91) (h.trans (by decide)), fun h => by rw [h]; decide⟩
  clear hE hN hl hs
  obtain ⟨Z, hZ⟩ : ∃ Z, Z = s.size := ⟨_, rfl⟩
  have hsZ : s.size = Z := hZ.symm
  have hZm : Z ≤ 300 := by omega
  have HZL := Lib.hid (show Z = l.length by omega)
  have HBY := Lib.hid hby
  have HPE := Lib.hid hpe
  have HNIL := Lib.hid hnil
  have hX0 : ((s[0]'hz0).toNat : Int) = ((s[0]'hz0).toNat : Int) := rfl
  obtain ⟨X0, hX0⟩ : ∃ X, X = ((s[0]'hz0).toNat : Int) := ⟨_, rfl⟩
  rw [← hX0] at h00
  have hx0 := hX0.symm
  have H00 := Lib.hid h00
  clear hX0 hsz hby hpe hZ hnil h00
  go_enter Tryz.func8, Tryz.ntmps8
  go_wp2_with fail
  refine (HSM.out).mono ?_
  rintro e w1 ⟨rfl, hb1⟩
  have HB1 := Lib.hid hb1; clear hb1
  go_wp2_with fail
  go_loopw [4, 5] (fun bv iv wr => ∃ k : Nat, k ≤ Z ∧ iv = .int .i64 k ∧ bv = .bool ((l.take k).any fun x => badF (b2 x)) ∧ w1 = wr) (fun _ i _ => Z - (intOf i).toNat)
  case atStart => exact ⟨0, by omega, by simp, rfl, rfl⟩
  case round =>
    obtain ⟨k, hk, rfl, rfl, rfl⟩ := hrel
    by_cases hlt : k < Z
    · have hku : k < s.size := by omega
      have hkl : k < l.length := by have := HZL.out; omega
      have hx := HBY.out k hku hkl
      have hst := any_step l hkl
      have hbd := fun W => bad_any (b2 l[k]) W
      generalize b2 l[k] = X at hx hst hbd
      obtain ⟨F', hF'⟩ : ∃ F', F' = (l.take (k + 1)).any fun x => badF (b2 x) := ⟨_, rfl⟩
      rw [← hF'] at hst
      have HF' := Lib.hid hF'; clear hF'
      have HBD := Lib.hid hbd; clear hbd
      cases hq : (l.take k).any fun x => badF (b2 x) with
      | true =>
        rw [hq, Bool.true_or] at hst
        clear hq
        have HST := Lib.hid hst; clear hst
        go_wp2_with fail
        go_roundw
        case rel => exact ⟨k + 1, by omega, by simp, by rw [← HF'.out, HST.out], trivial⟩
        case measure => simp [intOf]; omega
      | false =>
        rw [hq, Bool.false_or] at hst
        clear hq
        have HST := Lib.hid hst; clear hst
        go_wp2_with (first
          | (go_at_call 15; refine (HBD.out _).mono ?_; rintro e w4 ⟨rfl, hw4⟩; subst hw4)
          | fail)
        go_roundw
        case rel => exact ⟨k + 1, by omega, by simp, by rw [← HF'.out, HST.out], trivial⟩
        case measure => simp [intOf]; omega
    · obtain rfl : k = Z := by omega
      have htk : l.take k = l := List.take_of_length_le (by have := HZL.out; omega)
      rw [htk]
      clear htk
      by_cases hx91 : X0 = 91
      · have hh := H00.out.mp hx91
        subst hx91
        cases hR : hostP l false with
        | none =>
          rw [hR] at HP
          replace HP := Lib.hid (show ∀ W, Below w.heap.size w W → Calls Tryz.prog 11 #[.string s, .bool false] W fun e w' => e = .returned (.tuple #[.agg (hCells H0), .bool false]) ∧ Below W.heap.size W w' from HP.out)
          clear hR hh
          generalize (l.any fun x => badF (b2 x)) = q
          go_upto_region 10 with (first
            | (go_at_call 11; refine (HP.out _ HB1.out).mono ?_; rintro e w4 ⟨rfl, hb⟩; have HC4 := Lib.hid hb; clear hb)
            | (refine alloc_to rfl 26 rfl _ _ (allH _) ?_)
            | (refine storeH rfl (.tmp 6) (.tmp 33) rfl H0 rfl rfl rfl rfl ?_; intro w5 hh hb; have HH5 := Lib.hid hh; have HB5 := Lib.hid (stp HB1.out (stp HC4.out hb)); clear hh hb HC4)
            | fail)
          go_wp2_with fail
          go_ret
          exact ⟨rfl, HB5.out⟩
        | some G =>
          have hk4 := br_kind hh hR
          have h8 := (hkind_ok (hkind hR)).l
          rw [hR] at HP
          replace HP := Lib.hid (show ∀ W, Below w.heap.size w W → Calls Tryz.prog 11 #[.string s, .bool false] W fun e w' => e = .returned (.tuple #[.agg (hCells G), .bool true]) ∧ Below W.heap.size W w' from HP.out)
          have HG8 := Lib.hid h8
          have h0 := ce0 G
          rw [hk4] at h0
          have HC0 := Lib.hid h0
          clear hR hh hk4 h8 h0
          generalize (l.any fun x => badF (b2 x)) = q
          go_upto_region 10 with (first
            | (go_at_call 11; refine (HP.out _ HB1.out).mono ?_; rintro e w4 ⟨rfl, hb⟩; have HC4 := Lib.hid hb; clear hb)
            | (refine alloc_to rfl 26 rfl _ _ (allH _) ?_)
            | (refine storeH rfl (.tmp 6) (.tmp 33) rfl G HG8.out rfl rfl rfl ?_; intro w5 hh hb; have HH5 := Lib.hid hh; have HB5 := Lib.hid (stp HB1.out (stp HC4.out hb)); clear hh hb HC4)
            | fail)
          have c0 := HH5.out.cell 0
          rw [HC0.out] at c0
          go_wp2_with fail
          go_ret
          exact ⟨ret1_bool (by simp), HB5.out⟩
      · have hh : l.head? ≠ some 91 := fun h => hx91 (H00.out.mpr h)
        have hxq : (X0 == 91) = false := by simpa using hx91
        cases hq : l.any fun x => badF (b2 x) with
        | true =>
          have hR := opaq_none hh HNIL.out hq
          rw [hR] at HP
          replace HP := Lib.hid (show ∀ W, Below w.heap.size w W → Calls Tryz.prog 11 #[.string s, .bool false] W fun e w' => e = .returned (.tuple #[.agg (hCells H0), .bool false]) ∧ Below W.heap.size W w' from HP.out)
          clear hR hh hq
          go_upto_region 10 with (first
            | (go_at_call 11; refine (HP.out _ HB1.out).mono ?_; rintro e w4 ⟨rfl, hb⟩; have HC4 := Lib.hid hb; clear hb)
            | (refine alloc_to rfl 26 rfl _ _ (allH _) ?_)
            | (refine storeH rfl (.tmp 6) (.tmp 33) rfl H0 rfl rfl rfl rfl ?_; intro w5 hh hb; have HH5 := Lib.hid hh; have HB5 := Lib.hid (stp HB1.out (stp HC4.out hb)); clear hh hb HC4)
            | fail)
          go_upto_region 12 with fail
          refine wp_region_held_drew (S := fun _ => True) (by kernel_rfl) (by exact trivial) (fun hHeld => ?_)
          refine tk 0 (v := ?_) rfl (by kernel_rfl) (by kernel_rfl) (by kernel_rfl) (fun _ _ _ h => h) (by rfl) (by assumption) (fun wS hSw => ?_) ?_
          rotate_left
          · (try dsimp only at hSw); go_simp; first | done | with_reducible rfl   -- move
          try simp only [Act.put, List.setIfInBounds_toArray, List.set_cons_zero, List.set_cons_succ]
          refine tk 1 (v := ?_) rfl (by kernel_rfl) (by kernel_rfl) (by kernel_rfl) (fun _ _ _ h => h) (by rfl) (by assumption) (fun wS hSw => ?_) ?_
          rotate_left
          · (try dsimp only at hSw); go_simp; first | done | with_reducible rfl   -- move
          try simp only [Act.put, List.setIfInBounds_toArray, List.set_cons_zero, List.set_cons_succ]
          refine tk 2 (v := ?_) rfl (by kernel_rfl) (by kernel_rfl) (by kernel_rfl) (fun _ _ _ h => h) (by rfl) (by assumption) (fun wS hSw => ?_) ?_
          rotate_left
          · (try dsimp only at hSw); go_simp; first | done | with_reducible rfl   -- move
          try simp only [Act.put, List.setIfInBounds_toArray, List.set_cons_zero, List.set_cons_succ]
          refine tk 3 (v := ?_) rfl (by kernel_rfl) (by kernel_rfl) (by kernel_rfl) (fun _ _ _ h => h) (by rfl) (by assumption) (fun wS hSw => ?_) ?_
          rotate_left
          · (try dsimp only at hSw); go_simp; first | done | with_reducible rfl   -- move
          try simp only [Act.put, List.setIfInBounds_toArray, List.set_cons_zero, List.set_cons_succ]
          refine tk 4 (v := ?_) rfl (by kernel_rfl) (by kernel_rfl) (by kernel_rfl) (fun _ _ _ h => h) (by rfl) (by assumption) (fun wS hSw => ?_) ?_
          rotate_left
          · (try dsimp only at hSw); go_simp; first | done | with_reducible rfl   -- unOp
          try simp only [Act.put, List.setIfInBounds_toArray, List.set_cons_zero, List.set_cons_succ]
          refine tk 5 (v := ?_) rfl (by kernel_rfl) (by kernel_rfl) (by kernel_rfl) (fun _ _ _ h => h) (by rfl) (by assumption) (fun wS hSw => ?_) ?_
          rotate_left
          · (try dsimp only at hSw); go_simp; first | done | with_reducible rfl   -- binOp
          try simp only [Act.put, List.setIfInBounds_toArray, List.set_cons_zero, List.set_cons_succ]
          refine tk 6 (v := ?_) rfl (by kernel_rfl) (by kernel_rfl) (by kernel_rfl) (fun _ _ _ h => h) (by rfl) (by assumption) (fun wS hSw => ?_) ?_
          rotate_left
          · (try dsimp only at hSw); go_simp; first | done | with_reducible rfl   -- pick
          try simp only [Act.put, List.setIfInBounds_toArray, List.set_cons_zero, List.set_cons_succ]
          refine tk 7 (v := ?_) rfl (by kernel_rfl) (by kernel_rfl) (by kernel_rfl) (fun _ _ _ h => h) (by rfl) (by assumption) (fun wS hSw => ?_) ?_
          rotate_left
          · (try dsimp only at hSw); go_simp; first | done | with_reducible rfl   -- move
          try simp only [Act.put, List.setIfInBounds_toArray, List.set_cons_zero, List.set_cons_succ]
          refine tk 8 (v := ?_) rfl (by kernel_rfl) (by kernel_rfl) (by kernel_rfl) (fun _ _ _ h => h) (by rfl) (by assumption) (fun wS hSw => ?_) ?_
          rotate_left
          · (try dsimp only at hSw); go_simp; first | done | with_reducible rfl   -- move
          try simp only [Act.put, List.setIfInBounds_toArray, List.set_cons_zero, List.set_cons_succ]
          refine tk 9 (v := ?_) rfl (by kernel_rfl) (by kernel_rfl) (by kernel_rfl) (fun _ _ _ h => h) (by rfl) (by assumption) (fun wS hSw => ?_) ?_
          rotate_left
          · (try dsimp only at hSw); go_simp; first | done | with_reducible rfl   -- move
          try simp only [Act.put, List.setIfInBounds_toArray, List.set_cons_zero, List.set_cons_succ]
          refine sk 10 rfl (by kernel_rfl) (by kernel_rfl) (by kernel_rfl) (fun _ _ _ h => h) (by rfl) (by assumption) ?_
          try simp only [Act.put, List.setIfInBounds_toArray, List.set_cons_zero, List.set_cons_succ]
          refine sk 11 rfl (by kernel_rfl) (by kernel_rfl) (by kernel_rfl) (fun _ _ _ h => h) (by rfl) (by assumption) ?_
          try simp only [Act.put, List.setIfInBounds_toArray, List.set_cons_zero, List.set_cons_succ]
          refine sk 12 rfl (by kernel_rfl) (by kernel_rfl) (by kernel_rfl) (fun _ _ _ h => h) (by rfl) (by assumption) ?_
          try simp only [Act.put, List.setIfInBounds_toArray, List.set_cons_zero, List.set_cons_succ]
          refine sk 13 rfl (by kernel_rfl) (by kernel_rfl) (by kernel_rfl) (fun _ _ _ h => h) (by rfl) (by assumption) ?_
          try simp only [Act.put, List.setIfInBounds_toArray, List.set_cons_zero, List.set_cons_succ]
          refine sk 14 rfl (by kernel_rfl) (by kernel_rfl) (by kernel_rfl) (fun _ _ _ h => h) (by rfl) (by assumption) ?_
          try simp only [Act.put, List.setIfInBounds_toArray, List.set_cons_zero, List.set_cons_succ]
          refine tk 15 (v := ?_) rfl (by kernel_rfl) (by kernel_rfl) (by kernel_rfl) (fun _ _ _ h => h) (by rfl) (by assumption) (fun wS hSw => ?_) ?_
          rotate_left
          · (try dsimp only at hSw); go_simp; first | done | with_reducible rfl   -- pick
          try simp only [Act.put, List.setIfInBounds_toArray, List.set_cons_zero, List.set_cons_succ]
          refine tk 16 (v := ?_) rfl (by kernel_rfl) (by kernel_rfl) (by kernel_rfl) (fun _ _ _ h => h) (by rfl) (by assumption) (fun wS hSw => ?_) ?_
          rotate_left
          · (try dsimp only at hSw); go_simp; first | done | with_reducible rfl   -- pick
          try simp only [Act.put, List.setIfInBounds_toArray, List.set_cons_zero, List.set_cons_succ]
          refine tk 17 (v := ?_) rfl (by kernel_rfl) (by kernel_rfl) (by kernel_rfl) (fun _ _ _ h => h) (by rfl) (by assumption) (fun wS hSw => ?_) ?_
          rotate_left
          · (try dsimp only at hSw); go_simp; first | done | with_reducible rfl   -- assign
          try simp only [Act.put, List.setIfInBounds_toArray, List.set_cons_zero, List.set_cons_succ]
          refine wpAnyH_done (by kernel_rfl) ?_ _
          go_wp2_with fail
          go_ret
          exact ⟨ret1_bool (by simp), HB5.out.drew⟩
        | false =>
          have hR := opaq_is HNIL.out (any_no (by rw [hq]; simp))
          have hb5 := bldH5 (pcB 0 l)
          obtain ⟨G, hG⟩ : ∃ G : Hst, G = { H0 with kind := 5, name := pcB 0 l } := ⟨_, rfl⟩
          have hG8 : G.six.length = 8 := by rw [hG]; rfl
          rw [← hG] at hb5 hR
          obtain ⟨c, hc⟩ : ∃ c, c = bs (pcB 0 l) := ⟨_, rfl⟩
          replace HPE := Lib.hid (show ∀ W, Calls Tryz.prog 19 #[.string s, .int .i64 0] W fun e w' => e = .returned (.string c) ∧ Below W.heap.size W w' from by rw [hc]; exact HPE.out)
          rw [← hc] at hb5
          rw [hR] at HP
          replace HP := Lib.hid (show ∀ W, Below w.heap.size w W → Calls Tryz.prog 11 #[.string s, .bool false] W fun e w' => e = .returned (.tuple #[.agg (hCells G), .bool true]) ∧ Below W.heap.size W w' from HP.out)
          have HB5G := Lib.hid hb5
          have HG8 := Lib.hid hG8
          clear hR hh hq hb5 hG8 hG hc
          go_upto_region 10 with (first
            | (go_at_call 11; refine (HP.out _ HB1.out).mono ?_; rintro e w4 ⟨rfl, hb⟩; have HC4 := Lib.hid hb; clear hb)
            | (refine alloc_to rfl 26 rfl _ _ (allH _) ?_)
            | (refine storeH rfl (.tmp 6) (.tmp 33) rfl G HG8.out rfl rfl rfl ?_; intro w5 hh hb; have HH5 := Lib.hid hh; have HB5 := Lib.hid (stp HB1.out (stp HC4.out hb)); clear hh hb HC4)
            | fail)
          go_upto_region 12 with fail
          refine wp_region_held_drew (S := fun W => Below w5.heap.size w5 W) (by kernel_rfl) (by first | exact bz_drew (bz_refl _) | assumption | exact bz_step (by assumption) (by assumption) | exact bz_drew (by assumption)) (fun hHeld => ?_)
          refine tk 0 (v := ?_) rfl (by kernel_rfl) (by kernel_rfl) (by kernel_rfl) (fun _ _ _ h => h) (by rfl) (by assumption) (fun wS hSw => ?_) ?_
          rotate_left
          · (try dsimp only at hSw); go_simp; first | done | with_reducible rfl   -- move
          try simp only [Act.put, List.setIfInBounds_toArray, List.set_cons_zero, List.set_cons_succ]
          refine tk 1 (v := ?_) rfl (by kernel_rfl) (by kernel_rfl) (by kernel_rfl) (fun _ _ _ h => h) (by rfl) (by assumption) (fun wS hSw => ?_) ?_
          rotate_left
          · (try dsimp only at hSw); go_simp; first | done | with_reducible rfl   -- move
          try simp only [Act.put, List.setIfInBounds_toArray, List.set_cons_zero, List.set_cons_succ]
          refine tk 2 (v := ?_) rfl (by kernel_rfl) (by kernel_rfl) (by kernel_rfl) (fun _ _ _ h => h) (by rfl) (by assumption) (fun wS hSw => ?_) ?_
          rotate_left
          · (try dsimp only at hSw); go_simp; first | done | with_reducible rfl   -- move
          try simp only [Act.put, List.setIfInBounds_toArray, List.set_cons_zero, List.set_cons_succ]
          refine tk 3 (v := ?_) rfl (by kernel_rfl) (by kernel_rfl) (by kernel_rfl) (fun _ _ _ h => h) (by rfl) (by assumption) (fun wS hSw => ?_) ?_
          rotate_left
          · (try dsimp only at hSw); go_simp; first | done | with_reducible rfl   -- move
          try simp only [Act.put, List.setIfInBounds_toArray, List.set_cons_zero, List.set_cons_succ]
          refine tk 4 (v := ?_) rfl (by kernel_rfl) (by kernel_rfl) (by kernel_rfl) (fun _ _ _ h => h) (by rfl) (by assumption) (fun wS hSw => ?_) ?_
          rotate_left
          · (try dsimp only at hSw); go_simp; first | done | with_reducible rfl   -- unOp
          try simp only [Act.put, List.setIfInBounds_toArray, List.set_cons_zero, List.set_cons_succ]
          refine tk 5 (v := ?_) rfl (by kernel_rfl) (by kernel_rfl) (by kernel_rfl) (fun _ _ _ h => h) (by rfl) (by assumption) (fun wS hSw => ?_) ?_
          rotate_left
          · (try dsimp only at hSw); go_simp; first | done | with_reducible rfl   -- binOp
          try simp only [Act.put, List.setIfInBounds_toArray, List.set_cons_zero, List.set_cons_succ]
          refine tk 6 (v := ?_) rfl (by kernel_rfl) (by kernel_rfl) (by kernel_rfl) (fun _ _ _ h => h) (by rfl) (by assumption) (fun wS hSw => ?_) ?_
          rotate_left
          · (try dsimp only at hSw); go_simp; first | done | with_reducible rfl   -- pick
          try simp only [Act.put, List.setIfInBounds_toArray, List.set_cons_zero, List.set_cons_succ]
          refine tk 7 (v := ?_) rfl (by kernel_rfl) (by kernel_rfl) (by kernel_rfl) (fun _ _ _ h => h) (by rfl) (by assumption) (fun wS hSw => ?_) ?_
          rotate_left
          · (try dsimp only at hSw); go_simp; first | done | with_reducible rfl   -- move
          try simp only [Act.put, List.setIfInBounds_toArray, List.set_cons_zero, List.set_cons_succ]
          refine tk 8 (v := ?_) rfl (by kernel_rfl) (by kernel_rfl) (by kernel_rfl) (fun _ _ _ h => h) (by rfl) (by assumption) (fun wS hSw => ?_) ?_
          rotate_left
          · (try dsimp only at hSw); go_simp; first | done | with_reducible rfl   -- move
          try simp only [Act.put, List.setIfInBounds_toArray, List.set_cons_zero, List.set_cons_succ]
          refine tk 9 (v := ?_) rfl (by kernel_rfl) (by kernel_rfl) (by kernel_rfl) (fun _ _ _ h => h) (by rfl) (by assumption) (fun wS hSw => ?_) ?_
          rotate_left
          · (try dsimp only at hSw); go_simp; first | done | with_reducible rfl   -- move
          try simp only [Act.put, List.setIfInBounds_toArray, List.set_cons_zero, List.set_cons_succ]
          refine tk 10 (v := ?_) rfl (by kernel_rfl) (by kernel_rfl) (by kernel_rfl) (fun _ _ _ h => h) (by rfl) (by assumption) (fun wS hSw => ?_) ?_
          rotate_left
          · (try dsimp only at hSw)   -- load
            refine loadH_exec (.tmp 6) ?_ w4.heap.size G ?_ ?_
            · rfl
            · rfl
            · exact HH5.out.keep hSw
          try simp only [Act.put, List.setIfInBounds_toArray, List.set_cons_zero, List.set_cons_succ]
          refine tk 11 (v := ?_) rfl (by kernel_rfl) (by kernel_rfl) (by kernel_rfl) (fun _ _ _ h => h) (by rfl) (by assumption) (fun wS hSw => ?_) ?_
          rotate_left
          · (try dsimp only at hSw); go_simp; first | done | with_reducible rfl   -- move
          try simp only [Act.put, List.setIfInBounds_toArray, List.set_cons_zero, List.set_cons_succ]
          refine rn 12 (by kernel_rfl) rfl (by rfl) (fun K hK => ?_)
          go_simp   -- 12: call of tamis/percent.Encode
          refine (HPE.out _).mono ?_
          rintro e x1 ⟨rfl, hb⟩
          have hB1 : Below w5.heap.size w5 x1 := (Below.refl w5.heap.size w5).drew.trans hb
          clear hb
          dsimp only
          refine hK.out _ _ ?_ (fun hHeld => ?_)
          · first | exact bz_drew (bz_refl _) | assumption | exact bz_step (by assumption) (by assumption) | exact bz_drew (by assumption)
          clear hK K
          try simp only [Act.put, List.setIfInBounds_toArray, List.set_cons_zero, List.set_cons_succ]
          refine tk 13 (v := ?_) rfl (by kernel_rfl) (by kernel_rfl) (by kernel_rfl) (fun _ _ _ h => h) (by rfl) (by assumption) (fun wS hSw => ?_) ?_
          rotate_left
          · (try dsimp only at hSw)   -- build
            refine bld2_exec 0 1 (.const (.int .i64 5)) (.tmp 60) ?_ (.int .i64 5) (.string c) G ?_ ?_ HB5G.out
            · rfl
            · rfl
            · rfl
          try simp only [Act.put, List.setIfInBounds_toArray, List.set_cons_zero, List.set_cons_succ]
          refine tk 14 (v := ?_) rfl (by kernel_rfl) (by kernel_rfl) (by kernel_rfl) (fun _ _ _ h => h) (by rfl) (by assumption) (fun wS hSw => ?_) ?_
          rotate_left
          · (try dsimp only at hSw)   -- binOp
            refine eqH_exec (.tmp 58) (.tmp 61) ?_ G HG8.out ?_ ?_
            · rfl
            · rfl
            · rfl
          try simp only [Act.put, List.setIfInBounds_toArray, List.set_cons_zero, List.set_cons_succ]
          refine tk 15 (v := ?_) rfl (by kernel_rfl) (by kernel_rfl) (by kernel_rfl) (fun _ _ _ h => h) (by rfl) (by assumption) (fun wS hSw => ?_) ?_
          rotate_left
          · (try dsimp only at hSw); go_simp; first | done | with_reducible rfl   -- pick
          try simp only [Act.put, List.setIfInBounds_toArray, List.set_cons_zero, List.set_cons_succ]
          refine tk 16 (v := ?_) rfl (by kernel_rfl) (by kernel_rfl) (by kernel_rfl) (fun _ _ _ h => h) (by rfl) (by assumption) (fun wS hSw => ?_) ?_
          rotate_left
          · (try dsimp only at hSw); go_simp; first | done | with_reducible rfl   -- pick
          try simp only [Act.put, List.setIfInBounds_toArray, List.set_cons_zero, List.set_cons_succ]
          refine tk 17 (v := ?_) rfl (by kernel_rfl) (by kernel_rfl) (by kernel_rfl) (fun _ _ _ h => h) (by rfl) (by assumption) (fun wS hSw => ?_) ?_
          rotate_left
          · (try dsimp only at hSw); go_simp; first | done | with_reducible rfl   -- assign
          try simp only [Act.put, List.setIfInBounds_toArray, List.set_cons_zero, List.set_cons_succ]
          refine wpAnyH_done (by kernel_rfl) ?_ _
          go_wp2_with fail
          go_ret
          exact ⟨ret1_bool (by simp), HB5.out.trans (hB1.mono HB5.out.size)⟩
end Go.Proofs.YtgfklkfbccknoaaGreatDoor
