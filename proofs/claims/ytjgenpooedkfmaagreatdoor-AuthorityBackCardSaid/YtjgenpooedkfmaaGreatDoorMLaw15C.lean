/- The walk of AuthorityBack. -/
import Derived.Test.YtjgenpooedkfmaaGreatDoorGAthW
import Derived.Test.YtjgenpooedkfmaaGreatDoorGHlwA
namespace Go.Proofs.YtjgenpooedkfmaaGreatDoor
open Go.RowKit
set_option maxRecDepth 10000

set_option maxHeartbeats 40000000 in
theorem authorityBack_walk (c s : ByteArray) (w : World) (_ : c.size ≤ maxLen) (_ : s.size ≤ maxLen) (hE : Env w) (hN : NE w) :
    Calls Tryz.prog 3 #[.string c, .string s] w fun e w' => e = .returned (.bool true) ∧ Below w.heap.size w w' := by
  have HSM := Lib.hid (small15_any w hE)
  have hcs : 50 < c.size ∨ (c.size ≤ 50 ∧ 300 < s.size) ∨ (c.size ≤ 50 ∧ s.size ≤ 300) := by omega
  rcases hcs with h1 | ⟨h1, h2⟩ | ⟨h1, h2⟩
  case inr.inr =>
    have hap := fun (W : World) (hW : Below w.heap.size w W) => ap_small c s (by omega) hE hW
    have hsp := fun (W : World) => special_any (ls c) W
    rw [bs_ls] at hsp
    have HSP := Lib.hid hsp; clear hsp
    cases hA : authF (ls c) (ls s) with
    | none =>
      rw [hA] at hap
      have HAP := Lib.hid (show ∀ W, Below w.heap.size w W → Calls Tryz.prog 10 #[.string c, .string s] W fun e w' => e = .returned (.tuple #[.agg (aCells A0), .bool false]) ∧ Below W.heap.size W w' from hap)
      clear hap hA hE hN
      go_enter Tryz.func3, Tryz.ntmps3
      go_upto_region 5 with (first
        | (go_at_call 9; refine (HSM.out).mono ?_; rintro e w1 ⟨rfl, hb1⟩; have HB1 := Lib.hid hb1; clear hb1)
        | (go_at_call 10; refine (HAP.out _ HB1.out).mono ?_; rintro e w2 ⟨rfl, hb⟩; have HC2 := Lib.hid hb; clear hb)
        | (refine alloc_to rfl 29 rfl _ _ (allA _) ?_)
        | (refine storeA rfl (.tmp 6) (.tmp 25) rfl A0 rfl rfl rfl rfl ?_; intro w3 hh hb; have HH := Lib.hid hh; have HB3 := Lib.hid (stp HB1.out (stp HC2.out hb)); clear hh hb HC2)
        | fail)
      go_wp2_with (first
        | (refine loadA (by rfl) (.tmp 6) rfl _ A0 rfl rfl HH.out ?_)
        | (refine bldA (by rfl) #[] rfl #[] A0 (by rfl) bldA0 ?_)
        | (refine eqA (by rfl) (.tmp 31) (.tmp 32) rfl A0 rfl rfl rfl ?_)
        | fail)
      go_ret
      exact ⟨ret1_bool (by simp), HB3.out⟩
    | some A =>
      rw [hA] at hap
      have HAP := Lib.hid (show ∀ W, Below w.heap.size w W → Calls Tryz.prog 10 #[.string c, .string s] W fun e w' => e = .returned (.tuple #[.agg (aCells A), .bool true]) ∧ Below W.heap.size W w' from hap)
      have hsl : (ls s).length ≤ 300 := by rw [ls_length]; omega
      have hsm := wt_small hA hsl
      obtain ⟨k1, k2, k3, k4⟩ := auth_kinds hA
      have hw := fun (W : World) (hW : Below w.heap.size w W) => awrite_any A W k1 k3 (by rcases k2 with ⟨_, q⟩ | ⟨_, q1, q2⟩ <;> omega) hsm.2.1 hsm.2.2.1 hsm.2.2.2.1 (hN.below hW)
      have hbk := fun (W : World) (hW : Below w.heap.size w W) => aparse_back hA hsl W (hE.below hW)
      rw [bs_ls] at hbk
      obtain ⟨t, ht⟩ : ∃ t, t = bs (wtF A) := ⟨_, rfl⟩
      have HW := Lib.hid (show ∀ W, Below w.heap.size w W → Calls Tryz.prog 11 #[.agg (aCells A)] W fun e w' => e = .returned (.string t) ∧ Below W.heap.size W w' from by rw [ht]; exact hw)
      rw [← ht] at hbk
      have HBK := Lib.hid hbk
      obtain ⟨d0, d1, d13, d14, d2⟩ := ath_cells A k3.l
      clear d0 d1
      have A8 := Lib.hid k3.l
      have HD := Lib.hid (And.intro d13 (And.intro d14 d2))
      generalize spF (ls c) = sp at *
      have K1 := Lib.hid k1
      have K2 := Lib.hid k2
      have K4 := Lib.hid k4
      obtain ⟨K, hK⟩ : ∃ K, K = A.host.kind := ⟨_, rfl⟩
      obtain ⟨po, hpo⟩ : ∃ po, po = A.port := ⟨_, rfl⟩
      obtain ⟨hp, hhp⟩ : ∃ hp, hp = A.hasPort := ⟨_, rfl⟩
      rw [← hK] at K1 K4 HD
      rw [← hpo, ← hhp] at K2 HD
      clear ht hap hA hE hN hsl hsm k1 k2 k3 k4 hw hbk d13 d14 d2 hK hpo hhp
      go_enter Tryz.func3, Tryz.ntmps3
      go_upto_region 5 with (first
        | (go_at_call 9; refine (HSM.out).mono ?_; rintro e w1 ⟨rfl, hb1⟩; have HB1 := Lib.hid hb1; clear hb1)
        | (go_at_call 10; refine (HAP.out _ HB1.out).mono ?_; rintro e w2 ⟨rfl, hb⟩; have HC2 := Lib.hid hb; clear hb)
        | (refine alloc_to rfl 29 rfl _ _ (allA _) ?_)
        | (refine storeA rfl (.tmp 6) (.tmp 25) rfl A A8.out rfl rfl rfl ?_; intro w3 hh hb; have HH := Lib.hid hh; have HB3 := Lib.hid (stp HB1.out (stp HC2.out hb)); clear hh hb HC2)
        | fail)
      have c2 := HH.out.cell_is HD.out.2.2
      have hk0 := K1.out
      have hk0b : (K == 0) = false := by simpa using hk0
      go_upto_region 9 with fail
      clear c2
      go_upto_region 10 with (first
        | (refine loadA (by rfl) (.tmp 6) rfl _ A A8.out rfl HH.out ?_)
        | (go_at_call 11; refine (HW.out _ HB3.out).mono ?_; rintro e w4 ⟨rfl, hb⟩; have HB4 := Lib.hid (stp HB3.out hb); have HH4 := Lib.hid (HH.out.keep hb); clear hb)
        | (go_at_call 10; refine (HBK.out _ HB4.out).mono ?_; rintro e w5 ⟨rfl, hb⟩; have HC5 := Lib.hid hb; clear hb)
        | (refine alloc_to rfl 29 rfl _ _ (allA _) ?_)
        | (refine storeA rfl (.tmp 8) (.tmp 44) rfl A A8.out rfl rfl rfl ?_; intro w6 hh hb; have HG := Lib.hid hh; have HH6 := Lib.hid (HH4.out.keep (stp HC5.out hb)); have HB6 := Lib.hid (stp HB4.out (stp HC5.out hb)); clear hh hb HC5)
        | fail)
      clear HH HH4
      go_upto_region 11 with (first
        | (go_at_call 12; refine (HSP.out _).mono ?_; rintro e w7 ⟨rfl, hw7⟩; subst hw7)
        | fail)
      have c2 := HH6.out.cell_is HD.out.2.2
      have c13 := HH6.out.cell_is HD.out.1
      have c14 := HH6.out.cell_is HD.out.2.1
      have k2 := K2.out
      have k4 := K4.out
      have hc2 : (hp = false ∧ po = 0) ∨ (hp = true ∧ po = 0) ∨ (hp = true ∧ (po ≠ 0 ∧ 0 ≤ po ∧ po ≤ 65535)) := by
        rcases k2 with h | ⟨h, h3, h4⟩
        · exact .inl h
        · by_cases h5 : po = 0
          · exact .inr (.inl ⟨h, h5⟩)
          · exact .inr (.inr ⟨h, h5, h3, h4⟩)
      clear k2 K2 K4 K1 hk0 hk0b HSP HBK HW HAP HD
      refine wp_region_lit ?_
      try simp only [List.append_eq, List.cons_append, List.nil_append]
      go_wp2_with (first
        | (refine loadA (by rfl) (.tmp 6) rfl _ A A8.out rfl HH6.out ?_)
        | (refine loadA (by rfl) (.tmp 8) rfl _ A A8.out rfl HG.out ?_)
        | (refine eqA (by rfl) (.tmp 53) (.tmp 54) rfl A A8.out rfl rfl (Hid.out ?_))
        | fail)
      refine Lib.hid ?_
      clear HH6 HG
      rcases k4 with ⟨rfl, rfl | rfl | rfl⟩ | ⟨rfl, rfl | rfl | rfl⟩ <;> rcases hc2 with ⟨rfl, rfl⟩ | ⟨rfl, rfl⟩ | ⟨rfl, h5, h6, h7⟩
      all_goals
        try have h5b : (po == 0) = false := by simpa using h5
        go_wp2_with fail
        go_ret
        exact ⟨ret1_bool (by simp), HB6.out⟩
  all_goals
    clear hE hN
    go_enter Tryz.func3, Tryz.ntmps3
    go_wp2_with fail
    refine (HSM.out).mono ?_
    rintro e w1 ⟨rfl, hb1⟩
    have HB1 := Lib.hid hb1; clear hb1
    go_wp2_with fail
    go_ret
    exact ⟨rfl, HB1.out⟩
end Go.Proofs.YtjgenpooedkfmaaGreatDoor
