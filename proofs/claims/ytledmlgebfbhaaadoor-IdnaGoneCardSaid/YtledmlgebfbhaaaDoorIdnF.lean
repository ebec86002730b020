/- The reference's Label of layer 8; idna.isLow. -/
import Derived.Test.YtledmlgebfbhaaaDoorIdnE
namespace Go.Proofs.YtledmlgebfbhaaaDoor
open Go.RowKit
set_option maxRecDepth 10000

set_option maxHeartbeats 4000000 in
theorem rlabel_any (l : List Int) (v : Value) (w : World) (h : Sl w.heap.size w v (I64s l)) :
    Calls Tryd.prog 16 #[v] w fun e w' => e = .returned (.bool (labF l)) ∧ Below w.heap.size w w' := by
  obtain ⟨av, c, rfl⟩ := slice_val h
  have hLm : l.length ≤ maxLen := by
    obtain ⟨c1, h1, h2, _⟩ := h
    have h3 : (I64s l).length = l.length := by simp
    omega
  unfold maxLen at hLm
  rw [show (I64s l).length = l.length by simp] at h ⊢
  have hat := slice_at h
  clear h
  obtain ⟨T, hT⟩ : ∃ T, T = labF l := ⟨_, rfl⟩
  rw [← hT]
  have hbad := fun k (hk : k < l.length) (hb : okS l[k] = false) => hT.trans (lab_bad hk hb)
  have hend := fun (h : l.all okS = true) => hT.trans (lab_end h)
  have hfin : l.all okS = true → l.any farS = false → T = false := fun h h2 => by rw [hend h, h2]; simp
  have hfin2 : l.all okS = true → l.any farS = true → ∃ (h : 0 < l.length), T = !decide ((0x300 : Int) ≤ l[0] ∧ l[0] ≤ (0x36f : Int)) := by
    intro h h2
    have hp : 0 < l.length := by
      cases l with
      | nil => simp at h2
      | cons x r => simp
    exact ⟨hp, by rw [hend h, h2, frs_cons hp]; simp⟩
  have HAT := Lib.hid hat; clear hat
  have HBAD := Lib.hid hbad; clear hbad hend
  have HF1 := Lib.hid hfin; clear hfin
  have HF2 := Lib.hid hfin2; clear hfin2 hT
  obtain ⟨L, hL⟩ : ∃ L, L = l.length := ⟨_, rfl⟩
  rw [← hL] at hLm ⊢
  have HL := Lib.hid hL; clear hL
  go_enter Tryd.func16, Tryd.ntmps16
  go_wp2_with fail
  go_loopw [3, 4] (fun av iv wr => ∃ k : Nat, k ≤ L ∧ iv = .int .i64 k ∧ av = .bool ((l.take k).any farS) ∧ (l.take k).all okS = true ∧ Below w.heap.size w wr) (fun _ i _ => L - (intOf i).toNat)
  case atStart => exact ⟨0, by omega, by simp, by simp, by simp, Below.refl _ _⟩
  case round =>
    obtain ⟨k, hk, rfl, rfl, hall, hbl⟩ := hrel
    have HA := Lib.hid hall; clear hall
    have HB := Lib.hid hbl; clear hbl
    by_cases hlt : k < L
    · have hx : k < l.length := by have := HL.out; omega
      obtain ⟨b, o, rfl, hb, hcell0⟩ := HAT.out k hx
      have hs1 := fun h => all_snoc3 (f := okS) hx HA.out h
      have hs2 := any_snoc3 (f := farS) hx
      have hbd := HBAD.out k hx
      obtain ⟨x, hxx⟩ : ∃ x, x = l[k] := ⟨_, rfl⟩
      rw [← hxx] at hcell0 hs1 hs2 hbd
      clear hxx
      have hcw := fun (W : World) (hb2 : Below w.heap.size w W) => (hb2.cell (p := ⟨b, o + k, none⟩) hb).trans hcell0
      have hcell := hcw wr HB.out
      have HCW := Lib.hid hcw; clear hcw hcell0
      have hma := fun W => rmap_any x W
      obtain ⟨K, hK⟩ : ∃ K, K = (mapF x).2 := ⟨_, rfl⟩
      obtain ⟨B, hB⟩ : ∃ B, B = (mapF x).1 := ⟨_, rfl⟩
      have hk1 := fun h : K ≠ 1 => hbd (okS_f1 (by rw [← hK]; exact h))
      have hk2 := fun h : x = 46 => hbd (by rw [h]; exact okS_f2)
      have hk3 := fun (h : K = 1) (h2 : x ≠ 46) => hs1 (okS_t (by rw [← hK]; exact h) h2)
      rw [← hK, ← hB] at hma
      clear hbd hs1 hK hB
      have HMA := Lib.hid hma; clear hma
      have HK1 := Lib.hid hk1; clear hk1
      have HK2 := Lib.hid hk2; clear hk2
      have HK3 := Lib.hid hk3; clear hk3
      have HS2 := Lib.hid hs2; clear hs2
      by_cases hKe : K = 1
      · by_cases hxe : x = 46
        · have hf := HK2.out hxe
          subst hf
          subst hKe
          subst hxe
          go_wp2_with (first | (go_at_call 12; refine (HMA.out _).mono ?_; rintro e w3 ⟨rfl, hb3⟩; have HB3 := Lib.hid (HB.out.trans (hb3.mono HB.out.size)); clear hb3; have hc3 := HCW.out _ HB3.out) | fail)
          go_ret
          exact ⟨rfl, HB3.out⟩
        · have hall2 := HK3.out hKe hxe
          have HA2 := Lib.hid hall2; clear hall2
          have q1 : (x == 46) = false := by simp [hxe]
          subst hKe
          clear hxe
          obtain ⟨m, hm⟩ : ∃ m, m = (l.take k).any farS := ⟨_, rfl⟩
          rw [← hm] at HS2 ⊢
          clear hm
          have hcs : m = true ∨ (m = false ∧ 127 < x) ∨ (m = false ∧ x ≤ 127) := by
            cases m
            · right; simp only [true_and]; omega
            · exact .inl rfl
          rcases hcs with rfl | ⟨rfl, hf⟩ | ⟨rfl, hf⟩
          all_goals
            go_wp2_with (first | (go_at_call 12; refine (HMA.out _).mono ?_; rintro e w3 ⟨rfl, hb3⟩; have HB3 := Lib.hid (HB.out.trans (hb3.mono HB.out.size)); clear hb3; have hc3 := HCW.out _ HB3.out) | fail)
            go_roundw
            case rel => exact ⟨k + 1, by omega, by simp, by rw [HS2.out]; unfold farS; simp <;> omega, HA2.out, HB3.out⟩
            case measure => simp [intOf]; omega
      · have hf := HK1.out hKe
        subst hf
        have q1 : (K != 1) = true := by simp [hKe]
        go_wp2_with (first | (go_at_call 12; refine (HMA.out _).mono ?_; rintro e w3 ⟨rfl, hb3⟩; have HB3 := Lib.hid (HB.out.trans (hb3.mono HB.out.size)); clear hb3; have hc3 := HCW.out _ HB3.out) | fail)
        go_ret
        exact ⟨rfl, HB3.out⟩
    · obtain rfl : L = k := by omega
      have hall := HA.out
      rw [List.take_of_length_le (by have := HL.out; omega)] at hall ⊢
      have hf1 := HF1.out hall
      have hf2 := HF2.out hall
      obtain ⟨m, hm⟩ : ∃ m, m = l.any farS := ⟨_, rfl⟩
      rw [← hm] at hf1 hf2 ⊢
      clear hm hall
      cases m
      · have hf := hf1 rfl
        subst hf
        clear hf1 hf2
        go_wp2_with fail
        go_ret
        exact ⟨rfl, HB.out⟩
      · obtain ⟨hp, hT⟩ := hf2 rfl
        clear hf1 hf2
        obtain ⟨b, o, rfl, hb, hc0⟩ := HAT.out 0 hp
        have hcell := (HB.out.cell (p := ⟨b, o + 0, none⟩) hb).trans hc0
        rw [Nat.add_zero] at hcell
        have hL0 : 0 < L := by have := HL.out; omega
        obtain ⟨x, hxx⟩ : ∃ x, x = l[0] := ⟨_, rfl⟩
        rw [← hxx] at hcell hT
        clear hxx hc0 hp
        have HT := Lib.hid hT; clear hT
        go_wp2_with (first | (go_at_call 36; refine (rin_any _ _ _ _).mono ?_; rintro e w3 ⟨rfl, rfl⟩) | fail)
        go_ret
        exact ⟨ret1_bool (by rw [HT.out]; simp [Bool.decide_and, Bool.not_and]), HB.out⟩

def lowS (b : Bytes) : Bool := b.all (fun x => decide (b2 x < 0x80))
set_option maxHeartbeats 2000000 in
theorem isLow_any (b : Bytes) (w : World) (hl : b.length ≤ maxLen) : Calls Tryd.prog 45 #[.string (bs b)] w fun e w' => e = .returned (.bool (lowS b)) ∧ w = w' := by
  unfold maxLen at hl
  obtain ⟨s, hs⟩ : ∃ s, s = bs b := ⟨_, rfl⟩
  have hsz : s.size = b.length := by rw [hs, bs_size]
  obtain ⟨T, hT⟩ : ∃ T, T = lowS b := ⟨_, rfl⟩
  rw [← hs, ← hT]
  have hbad : ∀ k (hk : k < b.length), 0x80 ≤ b2 b[k] → T = false := by
    intro k hk h
    rw [hT]; unfold lowS
    rw [List.all_eq_false]
    exact ⟨_, List.getElem_mem hk, by simp; omega⟩
  have hok : (∀ k (hk : k < b.length), b2 b[k] < 0x80) → T = true := by
    intro h
    rw [hT]; unfold lowS
    rw [List.all_eq_true]
    intro x hx
    obtain ⟨k, hk, rfl⟩ := List.getElem_of_mem hx
    exact decide_eq_true (h k hk)
  clear hT
  obtain ⟨L, hL⟩ : ∃ L, L = b.length := ⟨_, rfl⟩
  rw [← hL] at hl hsz
  have HL := Lib.hid hL; clear hL
  have HS := Lib.hid hs; clear hs
  have HBAD := Lib.hid hbad; clear hbad
  have HOK := Lib.hid hok; clear hok
  go_enter Tryd.func45, Tryd.ntmps45
  go_wp2_with fail
  go_loopw [6] (fun iv wr => ∃ k : Nat, k ≤ L ∧ iv = .int .i64 k ∧ (∀ j (hj : j < b.length), j < k → b2 b[j] < 0x80) ∧ w = wr) (fun i _ => L - (intOf i).toNat)
  case atStart => exact ⟨0, by omega, by simp, fun j _ h => by omega, rfl⟩
  case round =>
    obtain ⟨k, hk, rfl, hall, rfl⟩ := hrel
    have HA := Lib.hid hall; clear hall
    by_cases hlt : k < L
    · have hx : k < b.length := by have := HL.out; omega
      have hk2 : k < s.size := by omega
      have hxe : ((s[k]'hk2).toNat : Int) = b2 b[k] := str_at HS.out hk2 hx
      have hb := HBAD.out k hx
      have hstep : ((s[k]'hk2).toNat : Int) < 0x80 → ∀ j (hj : j < b.length), j < k + 1 → b2 b[j] < 0x80 := by
        intro h j hj h2
        by_cases hjk : j = k
        · subst hjk; rw [← hxe]; exact h
        · exact HA.out j hj (by omega)
      rw [← hxe] at hb
      clear hxe
      have HBB := Lib.hid hb; clear hb
      have HST := Lib.hid hstep; clear hstep
      have hcs : ((s[k]'hk2).toNat : Int) < 0x80 ∨ 0x80 ≤ ((s[k]'hk2).toNat : Int) := by omega
      rcases hcs with hc | hc
      · go_wp2_with fail
        go_roundw
        case rel => exact ⟨k + 1, by omega, by simp, HST.out hc, trivial⟩
        case measure => simp [intOf]; omega
      · have hf := HBB.out hc
        subst hf
        go_wp2_with fail
        go_ret
        exact ⟨rfl, rfl⟩
    · have ht := HOK.out (fun j hj => HA.out j hj (by have := HL.out; omega))
      subst ht
      go_wp2_with fail
      go_ret
      exact ⟨rfl, rfl⟩
end Go.Proofs.YtledmlgebfbhaaaDoor
