/- The walk of IdnaMaps. -/
import Derived.Test.YtledmlgebfbhaaaDoorIdnK
import Derived.Test.YtledmlgebfbhaaaDoorIdnL
namespace Go.Proofs.YtledmlgebfbhaaaDoor
open Go.RowKit
set_option maxRecDepth 10000

theorem tsg {w W : World} (b : Bytes) (hb : b.length ≤ 300000) (hE : Env w) (h : Below w.heap.size w W) : Calls Tryd.prog 19 #[.string (bs b)] W fun e w' => RetRow W 3 (I64s (signs b)) e w' := tsigns b W hb (hE.below h).1
set_option maxHeartbeats 4000000 in
theorem idnaMaps_walk (c : Int) (w : World) (_ : (Lit.int .i64 c).wf = true) (hE : Env w) :
    Calls Tryd.prog 4 #[.int .i64 c] w fun e w' => e = .returned (.bool true) ∧ Below w.heap.size w w' := by
  have hma := fun W => map_any c W
  have hsm := small8_any w hE
  have HSM := Lib.hid hsm; clear hsm
  rcases map_kinds c with ⟨e, h0, h1⟩ | ⟨e, h1, h2⟩ | e | e
  all_goals rw [e] at hma
  all_goals have HMA := Lib.hid hma
  all_goals clear hma e
  · have hlen := (enc_len c).2
    have hsg := fun W h => tsg (W := W) (enc c) (by omega) hE h
    rw [h1] at hsg
    have hsn := fun W => sign_any c W
    obtain ⟨E, hEE⟩ : ∃ E, E = enc c := ⟨_, rfl⟩
    simp only [← hEE] at HMA
    rw [← hEE] at hsg hsn
    clear h0 h1 hlen hEE
    have HSG := Lib.hid hsg; clear hsg
    have HSN := Lib.hid hsn; clear hsn hE
    have hbe : ((bs E).toList == (bs E).toList) = true := by simp
    go_enter Tryd.func4, Tryd.ntmps4
    go_wp2_with fail
    refine (HSM.out).mono ?_
    rintro e w1 ⟨rfl, hb1⟩
    have HB1 := Lib.hid hb1; clear hb1
    go_wp2_with fail
    refine (HMA.out _).mono ?_
    rintro e w2 ⟨rfl, hb2⟩
    have HB2 := Lib.hid (HB1.out.trans (hb2.mono HB1.out.size)); clear hb2
    go_wp2_with fail
    refine (HSN.out _).mono ?_
    rintro e w3 ⟨rfl, rfl⟩
    go_wp2_with fail
    refine (HSG.out _ HB2.out).mono ?_
    rintro e w4 ⟨v4, rfl, ho4, hb4⟩
    have HB4 := Lib.hid (HB2.out.trans (hb4.mono HB2.out.size)); clear hb4
    have HS4 := Lib.hid (Sl.of_own ho4); clear ho4
    go_wp2_with fail
    refine (ints_any [c] [c] _ _ _ _ _ (HS4.out.below ((Below.refl _ _).alloc (Nat.le_refl _) _)) (sl_lay w4 3 [.int .i64 c] (I64s [c]) 1 rfl (by simp) rfl)).mono ?_
    rintro e w5 ⟨rfl, hb5⟩
    have HB5 := Lib.hid ((HB4.out.alloc HB4.out.size _).trans (hb5.mono (by have := HB4.out.size; simp; omega))); clear hb5
    go_wp2_with fail
    go_ret
    exact ⟨ret1_bool (by simp), HB5.out⟩
  · have hlen := to_join_len c
    have hsg := fun W h => tsg (W := W) (joinF (toF c)) (by omega) hE h
    rw [signs_to] at hsg
    have htg := to_targets c
    obtain ⟨E, hEE⟩ : ∃ E, E = joinF (toF c) := ⟨_, rfl⟩
    simp only [← hEE] at HMA
    rw [← hEE] at hsg
    clear hlen hEE
    obtain ⟨l, hl⟩ : ∃ l, l = toF c := ⟨_, rfl⟩
    rw [← hl] at hsg htg h1 h2
    clear hl
    obtain ⟨L, hL⟩ : ∃ L, L = l.length := ⟨_, rfl⟩
    rw [← hL] at h1 h2
    have HL := Lib.hid hL; clear hL
    have HTG := Lib.hid htg; clear htg
    have HSG := Lib.hid hsg; clear hsg hE
    go_enter Tryd.func4, Tryd.ntmps4
    go_wp2_with fail
    refine (HSM.out).mono ?_
    rintro e w1 ⟨rfl, hb1⟩
    have HB1 := Lib.hid hb1; clear hb1
    go_wp2_with fail
    refine (HMA.out _).mono ?_
    rintro e w2 ⟨rfl, hb2⟩
    have HB2 := Lib.hid (HB1.out.trans (hb2.mono HB1.out.size)); clear hb2
    go_wp2_with fail
    refine (HSG.out _ HB2.out).mono ?_
    rintro e w4 ⟨v4, rfl, ho4, hb4⟩
    have HB4 := Lib.hid (HB2.out.trans (hb4.mono HB2.out.size)); clear hb4
    obtain ⟨av, cv, hv⟩ := slice_val (Sl.of_own ho4)
    have hs4 := Sl.of_own ho4
    rw [show (I64s l).length = L by rw [List.length_map, HL.out]] at hv
    subst hv
    clear ho4
    rw [HL.out] at hs4
    have hat := slice_at hs4
    rw [← HL.out] at hs4
    have HAT := Lib.hid hat; clear hat hs4
    go_wp2_with fail
    go_loopw [7] (fun iv wr => ∃ k : Nat, k ≤ L ∧ iv = .int .i64 k ∧ Below w4.heap.size w4 wr) (fun i _ => L - (intOf i).toNat)
    case atStart => exact ⟨0, by omega, by simp, Below.refl _ _⟩
    case round =>
      obtain ⟨k, hk, rfl, hbl⟩ := hrel
      have HB := Lib.hid hbl; clear hbl
      by_cases hlt : k < L
      · have hx : k < l.length := by have := HL.out; omega
        obtain ⟨b, o, rfl, hb, hc0⟩ := HAT.out k hx
        have htx := HTG.out _ (List.getElem_mem hx)
        obtain ⟨x, hxx⟩ : ∃ x, x = l[k] := ⟨_, rfl⟩
        rw [← hxx] at hc0 htx
        clear hxx
        have hcw := fun (W : World) (h : Below w4.heap.size w4 W) => (h.cell (p := ⟨b, o + k, none⟩) hb).trans hc0
        have hcell := hcw wr HB.out
        have HCW := Lib.hid hcw; clear hcw hc0
        obtain ⟨hm1, hm2, _⟩ := htx
        have hmx := fun W => map_any x W
        rw [hm1] at hmx
        have hsx := fun W => sign_any x W
        have q1 : (x == c) = false := by simp [hm2]
        obtain ⟨X, hX⟩ : ∃ X, X = enc x := ⟨_, rfl⟩
        simp only [← hX] at hmx
        rw [← hX] at hsx
        clear hX hm1 hm2
        have HMX := Lib.hid hmx; clear hmx
        have HSX := Lib.hid hsx; clear hsx
        have hbe : ((bs X).toList == (bs X).toList) = true := by simp
        go_wp2_with fail
        refine (HMX.out _).mono ?_
        rintro e w5 ⟨rfl, hb5⟩
        have HB5 := Lib.hid (HB.out.trans (hb5.mono HB.out.size)); clear hb5
        have hc5 := HCW.out _ HB5.out
        go_wp2_with fail
        refine (HSX.out _).mono ?_
        rintro e w6 ⟨rfl, rfl⟩
        go_wp2_with fail
        go_roundw
        case rel => exact ⟨k + 1, by omega, by simp, HB5.out⟩
        case measure => simp [intOf]; omega
      · obtain rfl : L = k := by omega
        go_wp2_with fail
        go_ret
        exact ⟨ret1_bool (by simp; omega), HB4.out.trans (HB.out.mono HB4.out.size)⟩
  all_goals
    clear hE
    go_enter Tryd.func4, Tryd.ntmps4
    go_wp2_with fail
    refine (HSM.out).mono ?_
    rintro e w1 ⟨rfl, hb1⟩
    have HB1 := Lib.hid hb1; clear hb1
    go_wp2_with fail
    refine (HMA.out _).mono ?_
    rintro e w2 ⟨rfl, hb2⟩
    have HB2 := Lib.hid (HB1.out.trans (hb2.mono HB1.out.size)); clear hb2
    have hem : (bs []).toList.isEmpty = true := by rw [toList_bs]; rfl
    go_wp2_with fail
    go_ret
    exact ⟨ret1_bool (by simp), HB2.out⟩
end Go.Proofs.YtledmlgebfbhaaaDoor
