/- idna.Label, and the reference's Map and Label. -/
import Derived.Test.YtledmlgebfbhaaaDoorIdnD
namespace Go.Proofs.YtledmlgebfbhaaaDoor
open Go.RowKit
set_option maxRecDepth 10000

theorem toF_len (c : Int) : (toF c).length ≤ 3 := by
  rcases to_cases c with h | h | h | h | h | h | h | h | h | h | h | h | h <;> (obtain ⟨_, h⟩ := h; first | (rw [h]; simp) | (obtain ⟨_, h⟩ := h; rw [h]; simp))
set_option maxHeartbeats 4000000 in
theorem rmap_any (c : Int) (w : World) : Calls Tryd.prog 12 #[.int .i64 c] w fun e w' => e = .returned (.tuple #[S (mapF c).1, .int .i64 (mapF c).2]) ∧ Below w.heap.size w w' := by
  have ho := fun W => rto_any c W
  have hv := fun W => rvalid_any c W
  have hlen := toF_len c
  obtain ⟨M, hM⟩ : ∃ M, M = mapF c := ⟨_, rfl⟩
  rw [← hM]
  rcases map_cases c with ⟨b, h, h2, h3, e⟩ | ⟨h, h2, e⟩ | ⟨h, h2, h3, e⟩ | ⟨h, h2, h3, e⟩
  all_goals rw [← hM] at e
  · have hn : (toF c).length ≠ 0 := fun hz => h (List.eq_nil_of_length_eq_zero hz)
    obtain ⟨T, hT⟩ : ∃ T, T = toF c := ⟨_, rfl⟩
    rw [← hT] at ho h3 hlen hn
    obtain ⟨n, hnT⟩ : ∃ n, n = T.length := ⟨_, rfl⟩
    rw [← hnT] at hlen hn
    have hpos : 0 < n := by omega
    have HN := Lib.hid hnT; clear hnT hn
    have HM := Lib.hid e; clear e hM h hT h2
    have H3 := Lib.hid h3; clear h3
    have HO := Lib.hid ho; clear ho hv
    go_enter Tryd.func12, Tryd.ntmps12
    go_wp2_with fail
    refine (HO.out _).mono ?_
    rintro e w2 ⟨v2, rfl, hs2, hb2⟩
    have HB2 := Lib.hid hb2; clear hb2
    have HS2 := Lib.hid hs2
    obtain ⟨a2, c2, rfl⟩ := slice_val hs2
    clear hs2
    rw [show (I64s T).length = n by rw [List.length_map, HN.out]] at *
    go_wp2_with fail
    refine (join_any T _ _ HS2.out (by have := HN.out; omega)).mono ?_
    rintro e w3 ⟨rfl, hb3⟩
    have HB3 := Lib.hid (HB2.out.trans (hb3.mono HB2.out.size)); clear hb3
    go_wp2_with fail
    go_ret2
    exact ⟨ret_map (by rw [← H3.out]; exact HM.out), HB3.out⟩
  all_goals
    rw [h] at ho
    have HM := Lib.hid e; clear e hM
    have HO := Lib.hid ho; clear ho
    clear h hlen
  · rcases gn_cases c with (⟨rfl, e⟩ | ⟨rfl, e⟩ | ⟨rfl, e⟩ | ⟨rfl, e⟩) | ⟨h, e⟩
    all_goals try (rw [e] at h2; cases h2; done)
    all_goals
      clear e h2 hv
      go_enter Tryd.func12, Tryd.ntmps12
      go_wp2_with fail
      refine (HO.out _).mono ?_
      rintro e w2 ⟨v2, rfl, hs2, hb2⟩
      have HB2 := Lib.hid hb2; clear hb2
      obtain ⟨a2, c2, rfl⟩ := slice_val hs2
      clear hs2
      go_wp2_with fail
      go_ret2
      exact ⟨ret_map (a := []) HM.out, HB2.out⟩
  all_goals
    rcases gn_cases c with (⟨rfl, e⟩ | ⟨rfl, e⟩ | ⟨rfl, e⟩ | ⟨rfl, e⟩) | ⟨h, e⟩
    all_goals try (rw [e] at h2; cases h2; done)
    clear e h2
    rw [h3] at hv
    have HV := Lib.hid hv; clear hv
    have q0 : (c == 173) = false := by simp; omega
    have q1 : (c == 8203) = false := by simp; omega
    have q2 : (c == 8288) = false := by simp; omega
    have q3 : (c == 65279) = false := by simp; omega
    clear h h3
    go_enter Tryd.func12, Tryd.ntmps12
    go_wp2_with fail
    refine (HO.out _).mono ?_
    rintro e w2 ⟨v2, rfl, hs2, hb2⟩
    have HB2 := Lib.hid hb2; clear hb2
    obtain ⟨a2, c2, rfl⟩ := slice_val hs2
    clear hs2
    go_wp2_with (first | (go_at_call 26; refine (HV.out _).mono ?_; rintro e w3 ⟨rfl, rfl⟩) | (go_at_call 27; refine (rsign_any _ _).mono ?_; rintro e w4 ⟨rfl, hb4⟩; have HB4 := Lib.hid hb4; clear hb4) | fail)
    go_ret2
    first
      | exact ⟨ret_map (a := []) HM.out, HB2.out⟩
      | exact ⟨ret_map HM.out, HB2.out.trans (HB4.out.mono HB2.out.size)⟩

/-- may a sign stand in a label that is told by puny? -/
def okS (c : Int) : Bool := decide ((mapF c).2 = 1 ∧ c ≠ 46)
def farS (c : Int) : Bool := decide (127 < c)
def frs (l : List Int) : Bool := match l with | [] => false | x :: _ => !decide (0x300 ≤ x ∧ x ≤ 0x36f)
def labF (l : List Int) : Bool := frs l && l.all okS && l.any farS
theorem lab_bad {l : List Int} {k : Nat} (h : k < l.length) (hb : okS l[k] = false) : labF l = false := by
  have : l.all okS = false := by
    rw [List.all_eq_false]
    exact ⟨_, List.getElem_mem h, by rw [hb]; simp⟩
  unfold labF; rw [this]; simp
theorem lab_end {l : List Int} (h : l.all okS = true) : labF l = (frs l && l.any farS) := by unfold labF; rw [h]; simp
theorem frs_cons {l : List Int} (h : 0 < l.length) : frs l = !decide ((0x300 : Int) ≤ l[0] ∧ l[0] ≤ (0x36f : Int)) := by
  cases l with
  | nil => simp at h
  | cons x r => rfl
theorem all_snoc3 {l : List Int} {k : Nat} {f : Int → Bool} (h : k < l.length) (ha : (l.take k).all f = true) (hb : f l[k] = true) : (l.take (k + 1)).all f = true := by
  rw [List.take_succ_eq_append_getElem h, List.all_append, ha]; simp [hb]
theorem any_snoc3 {l : List Int} {k : Nat} {f : Int → Bool} (h : k < l.length) : (l.take (k + 1)).any f = ((l.take k).any f || f l[k]) := by
  rw [List.take_succ_eq_append_getElem h, List.any_append]; simp
theorem okS_f1 {c : Int} (h : (mapF c).2 ≠ 1) : okS c = false := decide_eq_false (fun h2 => h h2.1)
theorem okS_f2 : okS 46 = false := decide_eq_false (fun h2 => h2.2 rfl)
theorem okS_t {c : Int} (h : (mapF c).2 = 1) (h2 : c ≠ 46) : okS c = true := decide_eq_true ⟨h, h2⟩

set_option maxHeartbeats 4000000 in
theorem label_any (l : List Int) (v : Value) (w : World) (h : Sl w.heap.size w v (I64s l)) :
    Calls Tryd.prog 15 #[v] w fun e w' => e = .returned (.bool (labF l)) ∧ Below w.heap.size w w' := by
  obtain ⟨av, c, rfl⟩ := slice_val h
  have hLm : l.length ≤ maxLen := by
    obtain ⟨c1, h1, h2, _⟩ := h
    have h3 : (I64s l).length = l.length := by simp
    omega
  unfold maxLen at hLm
  rw [show (I64s l).length = l.length by simp] at h ⊢
  have hat := slice_at h
  clear h
  have HAT := Lib.hid hat; clear hat
  obtain ⟨T, hT⟩ : ∃ T, T = labF l := ⟨_, rfl⟩
  rw [← hT]
  have hbad := fun k (hk : k < l.length) (hb : okS l[k] = false) => hT.trans (lab_bad hk hb)
  have hend := fun (h : l.all okS = true) => hT.trans (lab_end h)
  have HBAD := Lib.hid hbad; clear hbad
  have HEND := Lib.hid hend; clear hend
  by_cases h0 : l.length = 0
  · obtain rfl : l = [] := List.eq_nil_of_length_eq_zero h0
    have hf : T = false := hT
    subst hf
    clear hT HAT HBAD HEND
    simp only [List.length_nil]
    go_enter Tryd.func15, Tryd.ntmps15
    go_wp2_with fail
    go_ret
    exact ⟨rfl, Below.refl _ _⟩
  · have hp : 0 < l.length := by omega
    obtain ⟨x0, hx0⟩ : ∃ x0, x0 = l[0]'hp := ⟨_, rfl⟩
    have hfr := frs_cons hp
    obtain ⟨b, o, rfl, hb, hc0⟩ := HAT.out 0 hp
    rw [← hx0] at hfr hc0
    clear hx0
    have hfirst : 0x300 ≤ x0 ∧ x0 ≤ 0x36f → T = false := fun h => by rw [hT]; unfold labF; rw [hfr, decide_eq_true h]; simp
    obtain ⟨L, hL⟩ : ∃ L, L = l.length := ⟨_, rfl⟩
    rw [← hL] at hLm hp ⊢
    have hL0 : 0 < L := hp
    have HL := Lib.hid hL; clear hL h0 hp
    rw [Nat.add_zero] at hc0
    have HFR := Lib.hid hfr; clear hfr hT
    have HF1 := Lib.hid hfirst; clear hfirst
    have q0 : ((L : Int) == 0) = false := by simp; omega
    by_cases hx0 : 0x300 ≤ x0 ∧ x0 ≤ 0x36f
    · have hf := HF1.out hx0
      subst hf
      go_enter Tryd.func15, Tryd.ntmps15
      go_wp2_with (first | (go_at_call 35; refine (in_t _ _ _ _ hx0).mono ?_; rintro e w2 ⟨rfl, rfl⟩) | fail)
      go_ret
      exact ⟨rfl, Below.refl _ _⟩
    · have HX0 := Lib.hid hx0; clear hx0
      go_enter Tryd.func15, Tryd.ntmps15
      go_wp2_with (first | (go_at_call 35; refine (in_f _ _ _ _ HX0.out).mono ?_; rintro e w2 ⟨rfl, rfl⟩) | fail)
      go_loopw [3, 19] (fun av iv wr => ∃ k : Nat, k ≤ L ∧ iv = .int .i64 k ∧ av = .bool ((l.take k).any farS) ∧ (l.take k).all okS = true ∧ Below w.heap.size w wr) (fun _ i _ => L - (intOf i).toNat)
      case atStart => exact ⟨0, by omega, by simp, by simp, by simp, Below.refl _ _⟩
      case round =>
        obtain ⟨k, hk, rfl, rfl, hall, hbl⟩ := hrel
        have HA := Lib.hid hall; clear hall
        have HB := Lib.hid hbl; clear hbl
        by_cases hlt : k < L
        · have hx : k < l.length := by have := HL.out; omega
          obtain ⟨b', o', hbo, hb', hcell0⟩ := HAT.out k hx
          obtain ⟨rfl, rfl⟩ : b = b' ∧ o = o' := by simpa using hbo
          have hcell : wr.cell? ⟨b, o + k, none⟩ = some (.int .i64 l[k]) := by rw [(HB.out).cell (p := ⟨b, o + k, none⟩) hb, hcell0]
          clear hcell0 hbo hb' hc0
          have hs1 := fun h => all_snoc3 (f := okS) hx HA.out h
          have hs2 := any_snoc3 (f := farS) hx
          have hbd := HBAD.out k hx
          obtain ⟨x, hxx⟩ : ∃ x, x = l[k] := ⟨_, rfl⟩
          rw [← hxx] at hcell hs1 hs2 hbd
          clear hxx
          have hma := fun W => map_any x W
          obtain ⟨K, hK⟩ : ∃ K, K = (mapF x).2 := ⟨_, rfl⟩
          obtain ⟨B, hB⟩ : ∃ B, B = (mapF x).1 := ⟨_, rfl⟩
          have hk1 := fun h : K ≠ 1 => hbd (okS_f1 (by rw [← hK]; exact h))
          have hk2 := fun h : x = 46 => hbd (by rw [h]; exact okS_f2)
          have hk3 := fun (h : K = 1) (h2 : x ≠ 46) => hs1 (okS_t (by rw [← hK]; exact h) h2)
          rw [← hK, ← hB] at hma
          clear hbd hs1 hK hB
          have HMA := Lib.hid hma; clear hma
          have HK1 := Lib.hid hk1; clear hk1
          have HK2 := Lib.hid hk2; clear hk2
          have HK3 := Lib.hid hk3; clear hk3
          have HS2 := Lib.hid hs2; clear hs2
          by_cases hKe : K = 1
          · by_cases hxe : x = 46
            · have hf := HK2.out hxe
              subst hf
              subst hKe
              subst hxe
              go_wp2_with (first | (go_at_call 11; refine (HMA.out _).mono ?_; rintro e w3 ⟨rfl, hb3⟩; have HB3 := Lib.hid (HB.out.trans (hb3.mono HB.out.size)); clear hb3) | fail)
              go_ret
              exact ⟨rfl, HB3.out⟩
            · have hall2 := HK3.out hKe hxe
              have HA2 := Lib.hid hall2; clear hall2
              have q1 : (x == 46) = false := by simp [hxe]
              subst hKe
              clear hxe
              obtain ⟨m, hm⟩ : ∃ m, m = (l.take k).any farS := ⟨_, rfl⟩
              rw [← hm] at HS2 ⊢
              clear hm
              have hcs : m = true ∨ (m = false ∧ 127 < x) ∨ (m = false ∧ x ≤ 127) := by
                cases m
                · right; simp only [true_and]; omega
                · exact .inl rfl
              rcases hcs with rfl | ⟨rfl, hf⟩ | ⟨rfl, hf⟩
              all_goals
                go_wp2_with (first | (go_at_call 11; refine (HMA.out _).mono ?_; rintro e w3 ⟨rfl, hb3⟩; have HB3 := Lib.hid (HB.out.trans (hb3.mono HB.out.size)); clear hb3) | fail)
                go_roundw
                case rel => exact ⟨k + 1, by omega, by simp, by rw [HS2.out]; unfold farS; simp <;> omega, HA2.out, HB3.out⟩
                case measure => simp [intOf]; omega
          · have hf := HK1.out hKe
            subst hf
            have q1 : (K != 1) = true := by simp [hKe]
            go_wp2_with (first | (go_at_call 11; refine (HMA.out _).mono ?_; rintro e w3 ⟨rfl, hb3⟩; have HB3 := Lib.hid (HB.out.trans (hb3.mono HB.out.size)); clear hb3) | fail)
            go_ret
            exact ⟨rfl, HB3.out⟩
        · obtain rfl : L = k := by omega
          have hall := HA.out
          rw [List.take_of_length_le (by have := HL.out; omega)] at hall ⊢
          have hT := HEND.out hall
          rw [HFR.out, decide_eq_false HX0.out] at hT
          have HT := Lib.hid hT; clear hT hall
          go_wp2_with fail
          go_ret
          exact ⟨ret1_bool (by rw [HT.out]; simp), HB.out⟩
end Go.Proofs.YtledmlgebfbhaaaDoor
