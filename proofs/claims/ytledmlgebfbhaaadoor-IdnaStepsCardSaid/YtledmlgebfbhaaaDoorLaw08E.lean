/- The walk of IdnaSteps. -/
import Derived.Test.YtledmlgebfbhaaaDoorLaw08B
namespace Go.Proofs.YtledmlgebfbhaaaDoor
open Go.RowKit
set_option maxRecDepth 10000

theorem tsg {w W : World} (b : Bytes) (hb : b.length ≤ 300000) (hE : Env w) (h : Below w.heap.size w W) : Calls Tryd.prog 19 #[.string (bs b)] W fun e w' => RetRow W 3 (I64s (signs b)) e w' := tsigns b W hb (hE.below h).1
set_option maxHeartbeats 4000000 in
theorem idnaSteps_walk (s : ByteArray) (w : World) (_ : s.size ≤ maxLen) (hE : Env w) :
    Calls Tryd.prog 6 #[.string s] w fun e w' => e = .returned (.bool true) ∧ Below w.heap.size w w' := by
  have HSM := Lib.hid (small8_any w hE)
  by_cases hbig : 300 < s.size
  · go_enter Tryd.func6, Tryd.ntmps6
    go_wp2_with fail
    refine (HSM.out).mono ?_
    rintro e w1 ⟨rfl, hb1⟩
    have HB1 := Lib.hid hb1; clear hb1
    go_wp2_with fail
    go_ret
    exact ⟨rfl, HB1.out⟩
  · obtain ⟨b, hb⟩ : ∃ b, b = ls s := ⟨_, rfl⟩
    have hbl : b.length ≤ 300 := by rw [hb, ls_length]; omega
    have hss : s = bs b := by rw [hb, bs_ls]
    clear hb
    have hsg := fun W h => tsg (W := W) b (by omega) hE h
    have hdm := fun W h => dom_is b _ _ w W (by omega) hE h rfl rfl
    have htl := told_len (signs b)
    have hsl := signs_len _ b (Nat.le_refl _)
    have hda := fun W h => dom_is (toldF (signs b)) _ _ w W (by omega) hE h rfl rfl
    have hst := fun h => dom_steps (b := b) h
    have hbd : ∀ x ∈ signs b, (mapF x).2 = 0 → (domF b).isSome = false := by
      intro x hx h
      obtain ⟨k, hk, rfl⟩ := List.getElem_of_mem hx
      rw [dom_1 hk h]; rfl
    have hda2 : (signs b).all okM = true → ∀ W, Below w.heap.size w W → Calls Tryd.prog 13 #[.string (bs (toldF (signs b)))] W fun e w' => e = .returned (.tuple #[S ((domF b).getD []), .bool (domF b).isSome]) ∧ Below W.heap.size W w' := by
      intro h W hW
      have := hda W hW
      rw [hst h] at this
      exact this
    clear hda hst
    rw [← hss] at hsg hdm
    obtain ⟨O, hO⟩ : ∃ O, O = (domF b).getD [] := ⟨_, rfl⟩
    obtain ⟨m, hm⟩ : ∃ m, m = (domF b).isSome := ⟨_, rfl⟩
    rw [← hO, ← hm] at hdm hda2
    rw [← hm] at hbd
    obtain ⟨l, hl⟩ : ∃ l, l = signs b := ⟨_, rfl⟩
    rw [← hl] at hsg hda2 hbd htl hsl
    clear hO hm hl hss hE
    obtain ⟨L, hL⟩ : ∃ L, L = l.length := ⟨_, rfl⟩
    rw [← hL] at hsl
    have hLm : L ≤ 300 := by omega
    clear hsl hbl htl
    have HL := Lib.hid hL; clear hL
    have HSG := Lib.hid hsg; clear hsg
    have HD := Lib.hid hdm; clear hdm
    have HDA := Lib.hid hda2; clear hda2
    have HBD := Lib.hid hbd; clear hbd
    have hbe : ((bs O).toList == (bs O).toList) = true := by simp
    go_enter Tryd.func6, Tryd.ntmps6
    go_wp2_with fail
    refine (HSM.out).mono ?_
    rintro e w1 ⟨rfl, hb1⟩
    have HB1 := Lib.hid hb1; clear hb1
    go_wp2_with fail
    refine (HSG.out _ HB1.out).mono ?_
    rintro e w2 ⟨v2, rfl, ho2, hb2⟩
    have HB2 := Lib.hid (HB1.out.trans (hb2.mono HB1.out.size)); clear hb2
    obtain ⟨av, cv, hv⟩ := slice_val (Sl.of_own ho2)
    have hs2 := Sl.of_own ho2
    rw [show (I64s l).length = L by rw [List.length_map, HL.out]] at hv
    subst hv
    clear ho2
    rw [HL.out] at hs2
    have hat := slice_at hs2
    rw [← HL.out] at hs2
    have HAT := Lib.hid hat; clear hat hs2
    go_wp2_with fail
    go_loopw [5, 6] (fun sv iv wr => ∃ k : Nat, k ≤ L ∧ iv = .int .i64 k ∧ sv = .string (bs (toldF (l.take k))) ∧ (l.take k).all okM = true ∧ Below w2.heap.size w2 wr) (fun _ i _ => L - (intOf i).toNat)
    case atStart => exact ⟨0, by omega, by simp, by simp [toldF, bs], by simp, Below.refl _ _⟩
    case round =>
      obtain ⟨k, hk, rfl, rfl, hall, hbl⟩ := hrel
      have HA := Lib.hid hall; clear hall
      have HB := Lib.hid hbl; clear hbl
      by_cases hlt : k < L
      · have hx : k < l.length := by have := HL.out; omega
        obtain ⟨b', o', rfl, hb', hc0⟩ := HAT.out k hx
        have hcell : wr.cell? ⟨b', o' + k, none⟩ = some (.int .i64 l[k]) := (HB.out.cell (p := ⟨b', o' + k, none⟩) hb').trans hc0
        clear hc0
        have hts := told_snoc hx
        have hok := fun h => all_snoc3 (f := okM) hx HA.out h
        have hbd := HBD.out _ (List.getElem_mem hx)
        have hml := map_len l[k]
        have htl := told_len (l.take k)
        rw [List.length_take] at htl
        obtain ⟨x, hxx⟩ : ∃ x, x = l[k] := ⟨_, rfl⟩
        rw [← hxx] at hcell hts hok hbd hml
        clear hxx
        have hma := fun W => map_any x W
        have hok2 : (mapF x).2 ≠ 0 → (l.take (k + 1)).all okM = true := fun h => hok (decide_eq_true h)
        clear hok
        obtain ⟨K, hK⟩ : ∃ K, K = (mapF x).2 := ⟨_, rfl⟩
        obtain ⟨B, hB⟩ : ∃ B, B = (mapF x).1 := ⟨_, rfl⟩
        rw [← hB] at hts hml
        rw [← hK] at hbd hok2
        rw [← hK, ← hB] at hma
        clear hK hB
        have HMA := Lib.hid hma; clear hma
        obtain ⟨A, hA⟩ : ∃ A, A = toldF (l.take k) := ⟨_, rfl⟩
        rw [← hA] at hts htl ⊢
        clear hA
        have hal : A.length ≤ 3600 := by omega
        clear htl
        have HTS := Lib.hid hts; clear hts
        by_cases hK0 : K = 0
        · have hf := hbd hK0
          subst hK0
          subst hf
          clear hok2 hbd
          go_wp2_with fail
          refine (HMA.out _).mono ?_
          rintro e w3 ⟨rfl, hb3⟩
          have HB3 := Lib.hid (HB2.out.trans ((HB.out.trans (hb3.mono HB.out.size)).mono HB2.out.size)); clear hb3
          go_wp2_with fail
          refine (HD.out _ HB3.out).mono ?_
          rintro e w4 ⟨rfl, hb4⟩
          have HB4 := Lib.hid (HB3.out.trans (hb4.mono HB3.out.size)); clear hb4
          go_wp2_with fail
          go_ret
          exact ⟨rfl, HB4.out⟩
        · have q0 : (K == 0) = false := by simp [hK0]
          have hall2 := hok2 hK0
          have HA2 := Lib.hid hall2; clear hall2 hok2 hbd hK0
          go_wp2_with fail
          refine (HMA.out _).mono ?_
          rintro e w3 ⟨rfl, hb3⟩
          have HB3 := Lib.hid (HB.out.trans (hb3.mono HB.out.size)); clear hb3
          go_wp2_with fail
          go_roundw
          case rel => exact ⟨k + 1, by omega, by simp, by rw [HTS.out, bs_app], HA2.out, HB3.out⟩
          case measure => simp [intOf]; omega
      · obtain rfl : L = k := by omega
        have hall := HA.out
        rw [List.take_of_length_le (by have := HL.out; omega)] at hall ⊢
        have hda := HDA.out hall
        have HDB := Lib.hid hda; clear hda hall
        have HB3 := Lib.hid (HB2.out.trans (HB.out.mono HB2.out.size))
        go_wp2_with fail
        refine (HD.out _ HB3.out).mono ?_
        rintro e w4 ⟨rfl, hb4⟩
        have HB4 := Lib.hid (HB3.out.trans (hb4.mono HB3.out.size)); clear hb4
        go_wp2_with fail
        refine (HDB.out _ HB4.out).mono ?_
        rintro e w5 ⟨rfl, hb5⟩
        have HB5 := Lib.hid (HB4.out.trans (hb5.mono HB4.out.size)); clear hb5
        go_wp2_with fail
        go_ret
        exact ⟨ret1_bool (by simp), HB5.out⟩
end Go.Proofs.YtledmlgebfbhaaaDoor
