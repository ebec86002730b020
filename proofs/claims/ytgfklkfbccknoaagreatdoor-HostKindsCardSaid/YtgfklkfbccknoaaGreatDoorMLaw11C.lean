/- The walk of HostKinds. -/
import Derived.Test.YtgfklkfbccknoaaGreatDoorGHlwA
namespace Go.Proofs.YtgfklkfbccknoaaGreatDoor
open Go.RowKit
set_option maxRecDepth 10000

set_option maxHeartbeats 40000000 in
theorem hostKinds_walk (s : ByteArray) (sp : Bool) (w : World) (_ : s.size ≤ maxLen) (hE : Env w) (hN : NE w) :
    Calls Tryz.prog 5 #[.string s, .bool sp] w fun e w' => e = .returned (.bool true) ∧ Below w.heap.size w w' := by
  have HSM := Lib.hid (small11_any w hE hN)
  by_cases hbig : 300 < s.size
  · clear hE hN
    go_enter Tryz.func5, Tryz.ntmps5
    go_wp2_with fail
    refine (HSM.out).mono ?_
    rintro e w1 ⟨rfl, hb1⟩
    have HB1 := Lib.hid hb1; clear hb1
    go_wp2_with fail
    go_ret
    exact ⟨rfl, HB1.out⟩
  have HP := Lib.hid (fun (W : World) (hW : Below w.heap.size w W) => hp_small s sp (by omega) hE hW)
  cases hR : hostP (ls s) sp with
  | none =>
    rw [hR] at HP
    replace HP := Lib.hid (show ∀ W, Below w.heap.size w W → Calls Tryz.prog 11 #[.string s, .bool sp] W fun e w' => e = .returned (.tuple #[.agg (hCells H0), .bool false]) ∧ Below W.heap.size W w' from HP.out)
    clear hR hE hN
    go_enter Tryz.func5, Tryz.ntmps5
    go_upto_region 5 with (first
      | (go_at_call 10; refine (HSM.out).mono ?_; rintro e w1 ⟨rfl, hb1⟩; have HB1 := Lib.hid hb1; clear hb1)
      | (go_at_call 11; refine (HP.out _ HB1.out).mono ?_; rintro e w2 ⟨rfl, hb⟩; have HC2 := Lib.hid hb; clear hb)
      | (refine alloc_to rfl 26 rfl _ _ (allH _) ?_)
      | (refine storeH rfl (.tmp 6) (.tmp 18) rfl H0 rfl rfl rfl rfl ?_; intro W2 hh hb; have HH := Lib.hid hh; have HB2 := Lib.hid (stp HB1.out (stp HC2.out hb)); clear hh hb HC2)
      | fail)
    go_wp2_with fail
    go_ret
    exact ⟨rfl, HB2.out⟩
  | some G =>
    rw [hR] at HP
    replace HP := Lib.hid (show ∀ W, Below w.heap.size w W → Calls Tryz.prog 11 #[.string s, .bool sp] W fun e w' => e = .returned (.tuple #[.agg (hCells G), .bool true]) ∧ Below W.heap.size W w' from HP.out)
    have hk := hkind hR
    have HG8 := Lib.hid (hkind_ok hk).l
    have hkk := kinds_of hk
    have h0 := ce0 G
    have h1 := ce1 G
    have h2 := ce2 G
    obtain ⟨nm, hnm⟩ : ∃ nm, nm = bs G.name := ⟨_, rfl⟩
    rw [← hnm] at h1
    have hne : nm.toList = [] ↔ G.name = [] := by rw [hnm, toList_bs]
    have hls : ls s = [] ∨ ∃ h0 : 0 < s.size, ((s[0]'h0).toNat : Int) = b2 ((ls s).headD 0) := by
      by_cases hz : s.size = 0
      · left; exact List.eq_nil_of_length_eq_zero (by rw [ls_length]; exact hz)
      · right
        have h0 : 0 < s.size := by omega
        refine ⟨h0, ?_⟩
        have hl : 0 < (ls s).length := by rw [ls_length]; exact h0
        rw [str_at (bs_ls s).symm h0 hl]
        have key : ∀ (l : Bytes) (h : 0 < l.length), b2 (l[0]'h) = b2 (l.headD 0) := fun l h => by
          cases l with
          | nil => simp at h
          | cons x r => rfl
        exact key _ hl
    clear hnm hR hk hE hN
    rcases hkk with ⟨k, hh, n, f⟩ | ⟨k, es, n, f, x⟩ | ⟨k, es, n, x⟩ | ⟨k, es, n, f, x⟩ | ⟨k, es, n, f, x⟩
    · -- eight pieces
      have he2 := hne.mpr n
      have he : nm.toList.isEmpty = true := by rw [he2]; rfl
      rw [k] at h0
      rw [f] at h2
      have hx : ∃ h0 : 0 < s.size, ((s[0]'h0).toNat : Int) = 91 := by
        rcases hls with e | ⟨h0, e⟩
        · rw [e] at hh; cases hh
        · refine ⟨h0, ?_⟩
          rw [e]
          cases hc : ls s with
          | nil => rw [hc] at hh; cases hh
          | cons y r => rw [hc] at hh; injection hh with hh; rw [hh]; show b2 91 = 91; decide
      obtain ⟨hs0, hx0⟩ := hx
      have hgt : (0 : Int) < s.size := by omega
      have H0 := Lib.hid h0; have H1 := Lib.hid h1; have H2 := Lib.hid h2
      clear h0 h1 h2 hls hne hh n k f
      go_enter Tryz.func5, Tryz.ntmps5
      go_upto_region 5 with (first
        | (go_at_call 10; refine (HSM.out).mono ?_; rintro e w1 ⟨rfl, hb1⟩; have HB1 := Lib.hid hb1; clear hb1)
        | (go_at_call 11; refine (HP.out _ HB1.out).mono ?_; rintro e w2 ⟨rfl, hb⟩; have HC2 := Lib.hid hb; clear hb)
        | (refine alloc_to rfl 26 rfl _ _ (allH _) ?_)
        | (refine storeH rfl (.tmp 6) (.tmp 18) rfl G HG8.out rfl rfl rfl ?_; intro W2 hh hb; have HH := Lib.hid hh; have HB2 := Lib.hid (stp HB1.out (stp HC2.out hb)); clear hh hb HC2)
        | fail)
      have c0 := HH.out.cell 0
      have c1 := HH.out.cell 1
      have c2 := HH.out.cell 2
      rw [H0.out] at c0; rw [H1.out] at c1; rw [H2.out] at c2
      go_wp2_with fail
      go_ret
      exact ⟨ret1_bool (by simp), HB2.out⟩
    all_goals
      have H6 := Lib.hid x
      rw [k] at h0
      try rw [f] at h2
      subst es
      first
        | have he : nm.toList.isEmpty = true := by rw [hne.mpr n]; rfl
        | have he : nm.toList.isEmpty = false := by
            cases hq : nm.toList.isEmpty
            · rfl
            · exact absurd (hne.mp (List.isEmpty_iff.mp hq)) n
      have H0 := Lib.hid h0; have H1 := Lib.hid h1; have H2 := Lib.hid h2
      clear h0 h1 h2 hls hne n k x
      try clear f
      go_enter Tryz.func5, Tryz.ntmps5
      go_upto_region 5 with (first
        | (go_at_call 10; refine (HSM.out).mono ?_; rintro e w1 ⟨rfl, hb1⟩; have HB1 := Lib.hid hb1; clear hb1)
        | (go_at_call 11; refine (HP.out _ HB1.out).mono ?_; rintro e w2 ⟨rfl, hb⟩; have HC2 := Lib.hid hb; clear hb)
        | (refine alloc_to rfl 26 rfl _ _ (allH _) ?_)
        | (refine storeH rfl (.tmp 6) (.tmp 18) rfl G HG8.out rfl rfl rfl ?_; intro W2 hh hb; have HH := Lib.hid hh; have HB2 := Lib.hid (stp HB1.out (stp HC2.out hb)); clear hh hb HC2)
        | fail)
      have c0 := HH.out.cell 0
      have c1 := HH.out.cell 1
      have c2 := HH.out.cell 2
      rw [H0.out] at c0; rw [H1.out] at c1; rw [H2.out] at c2
      have hr6 := HH.out.six
      rw [H6.out] at hr6
      have HR6 := Lib.hid hr6; clear hr6
      go_wp2_with (first
        | (refine load6 (by rfl) (.tmp 51) rfl _ 3 Z8 rfl HR6.out rfl ?_)
        | (refine build6 (by rfl) rfl ?_)
        | (refine neq6 (by rfl) (.tmp 52) (.tmp 53) rfl rfl rfl ?_)
        | fail)
      go_ret
      exact ⟨ret1_bool (by simp), HB2.out⟩
end Go.Proofs.YtgfklkfbccknoaaGreatDoor
