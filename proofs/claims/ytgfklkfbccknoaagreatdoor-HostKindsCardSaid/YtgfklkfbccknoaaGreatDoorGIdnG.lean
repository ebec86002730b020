/- IdnG IdnH: joined. -/
import Derived.Test.YtgfklkfbccknoaaGreatDoorGIdnC
import Derived.Test.YtgfklkfbccknoaaGreatDoorGPunJ
import Derived.Test.YtgfklkfbccknoaaGreatDoorGUtfD
import Derived.Test.YtgfklkfbccknoaaGreatDoorGSlic
import Derived.Test.YtgfklkfbccknoaaGreatDoorGPunL
/- idna.written: a label as it stands in a name. -/
namespace Go.Proofs.YtgfklkfbccknoaaGreatDoor
open Go.RowKit
set_option maxRecDepth 10000

/-- what stands ahead of letters of puny -/
def pre4 : Bytes := [120, 110, 45, 45]
def wrF (b : Bytes) : Option Bytes :=
  if Lib.hasPrefix b pre4 = true then
    (if lowS b = true then (match decF (b.drop 4) with | some l => if labF l = true then some b else none | none => none) else none)
  else if lowS b = true then some b
  else if labF (signs b) = true then (if (encR (signs b)).2 = true then some (pre4 ++ (encR (signs b)).1) else none) else none
/-- what a function answers that makes a text, if there is one -/
def RetO (w : World) (o : Option Bytes) : Ending → World → Prop := fun e w' => ∃ x, e = .returned (.tuple #[S x, .bool o.isSome]) ∧ (∀ y, o = some y → x = y) ∧ Below w.heap.size w w'
theorem RetO.none {w w' : World} {o : Option Bytes} (x : Bytes) (h : o = none) (hb : Below w.heap.size w w') : RetO w o (.returned (.tuple #[S x, .bool false])) w' := by
  subst h; exact ⟨_, rfl, fun _ h => (by cases h), hb⟩
theorem RetO.some {w w' : World} {o : Option Bytes} {x : Bytes} {s : ByteArray} (h : o = some x) (hs : s = bs x) (hb : Below w.heap.size w w') : RetO w o (.returned (.tuple #[.string s, .bool true])) w' := by
  subst h; subst hs; exact ⟨_, rfl, fun _ h => Option.some.inj h, hb⟩
theorem wr_1 {b : Bytes} (h : Lib.hasPrefix b pre4 = true) (h2 : lowS b = false) : wrF b = none := by unfold wrF; rw [if_pos h, if_neg (by simp [h2])]
theorem wr_2 {b : Bytes} (h : Lib.hasPrefix b pre4 = true) (h2 : lowS b = true) (h3 : decF (b.drop 4) = none) : wrF b = none := by unfold wrF; rw [if_pos h, if_pos h2, h3]
theorem wr_3 {b : Bytes} {l : List Int} (h : Lib.hasPrefix b pre4 = true) (h2 : lowS b = true) (h3 : decF (b.drop 4) = some l) : wrF b = if labF l = true then some b else none := by unfold wrF; rw [if_pos h, if_pos h2, h3]
theorem wr_4 {b : Bytes} (h : Lib.hasPrefix b pre4 = false) (h2 : lowS b = true) : wrF b = some b := by unfold wrF; rw [if_neg (by simp [h]), if_pos h2]
theorem wr_5 {b : Bytes} (h : Lib.hasPrefix b pre4 = false) (h2 : lowS b = false) (h3 : labF (signs b) = false) : wrF b = none := by unfold wrF; rw [if_neg (by simp [h]), if_neg (by simp [h2]), if_neg (by simp [h3])]
theorem wr_6 {b : Bytes} (h : Lib.hasPrefix b pre4 = false) (h2 : lowS b = false) (h3 : labF (signs b) = true) : wrF b = if (encR (signs b)).2 = true then some (pre4 ++ (encR (signs b)).1) else none := by unfold wrF; rw [if_neg (by simp [h]), if_neg (by simp [h2]), if_pos h3]
theorem encR_len (l : List Int) : (encR l).1.length ≤ 3000 := by
  unfold encR
  split
  · simp
  · next h =>
    have h1 : l.all sg = true := by
      by_cases h2 : l.all sg = true
      · exact h2
      · exact absurd (.inr h2) h
    exact encF_len (List.all_eq_true.mp h1) (by omega)
/-- text.Signs -/
theorem tsigns (b : Bytes) (w : World) (hb : b.length ≤ 300000) (hT : Tabs w) : Calls Tryz.prog 62 #[.string (bs b)] w fun e w' => RetRow w 3 (I64s (signs b)) e w' := by
  have h := signsT_any (bs b) w (by rw [bs_size]; exact hb) hT
  rw [ls_bs, runes_decT] at h
  exact h

set_option maxHeartbeats 4000000 in
theorem written_any (b : Bytes) (w : World) (hb : b.length ≤ 100000) (hT : Tabs w) : Calls Tryz.prog 66 #[.string (bs b)] w fun e w' => RetO w (wrF b) e w' := by
  have hlow := fun W => isLow_any b W (by unfold maxLen; omega)
  have hcut := fun W => Any.strings_CutPrefix Tryz.laysCut (bs b) (bs pre4) W
  have hsg := fun W (h : Tabs W) => tsigns b W (by omega) h
  have hdec := fun W => decode_core (b.drop 4) W (by rw [List.length_drop]; omega)
  have e1 : (bs b).data.toList = b := ls_bs b
  have e2 : (bs pre4).data.toList = pre4 := ls_bs pre4
  rw [e1, e2] at hcut
  have hcut2 : ∀ W, Calls Tryz.prog 101 #[.string (bs b), .string ⟨#[120, 110, 45, 45]⟩] W fun e w' => e = .returned (.tuple #[.string (bs (Lib.trimPrefix b pre4)), .bool (Lib.hasPrefix b pre4)]) ∧ w' = W := hcut
  clear hcut e1 e2
  have htrim : Lib.hasPrefix b pre4 = true → Lib.trimPrefix b pre4 = b.drop 4 := fun h => by unfold Lib.trimPrefix; rw [if_pos h]; rfl
  obtain ⟨O, hO⟩ : ∃ O, O = wrF b := ⟨_, rfl⟩
  rw [← hO]
  obtain ⟨R, hR⟩ : ∃ R, R = Lib.trimPrefix b pre4 := ⟨_, rfl⟩
  rw [← hR] at hcut2 htrim
  clear hR
  have HT := Lib.hid hT; clear hT
  cases hp : Lib.hasPrefix b pre4
  · rw [hp] at hcut2
    have HCUT := Lib.hid hcut2; clear hcut2 htrim hdec
    cases hl : lowS b
    · rw [hl] at hlow
      have HLOW := Lib.hid hlow; clear hlow
      have HSG := Lib.hid hsg; clear hsg
      cases hla : labF (signs b)
      · have ho := hO.trans (wr_5 hp hl hla)
        have HO := Lib.hid ho; clear ho hO hp hl
        obtain ⟨L, hL⟩ : ∃ L, L = signs b := ⟨_, rfl⟩
        rw [← hL] at hla HSG
        have HLA := Lib.hid hla; clear hla hL
        obtain ⟨s, hs⟩ : ∃ s, s = bs b := ⟨_, rfl⟩
        rw [← hs] at HLOW HCUT HSG ⊢
        clear hs
        go_enter Tryz.func66, Tryz.ntmps66
        go_wp2_with (first
          | (go_at_call 100; refine (HLOW.out _).mono ?_; rintro e w2 ⟨rfl, rfl⟩)
          | (go_at_call 101; refine (HCUT.out _).mono ?_; rintro e w2 ⟨rfl, hw2⟩; subst w2)
          | (go_at_call 62; refine (HSG.out _ HT.out).mono ?_; rintro e w3 ⟨v3, rfl, ho3, hb3⟩; have HB3 := Lib.hid hb3; clear hb3; have HS3 := Lib.hid (Sl.of_own ho3); clear ho3)
          | (go_at_call 103; refine (label_any L _ _ (HS3.out.more (Nat.le_refl _))).mono ?_; rw [HLA.out]; rintro e w4 ⟨rfl, hb4⟩; have HB4 := Lib.hid (HB3.out.trans (hb4.mono HB3.out.size)); clear hb4)
          | fail)
        go_ret2
        exact RetO.none [] HO.out HB4.out
      · have ho := hO.trans (wr_6 hp hl hla)
        have henc := encode_any (signs b)
        have hal := encR_len (signs b)
        obtain ⟨L, hL⟩ : ∃ L, L = signs b := ⟨_, rfl⟩
        rw [← hL] at hla HSG ho henc hal
        clear hL hO hp hl
        obtain ⟨A, hA⟩ : ∃ A, A = (encR L).1 := ⟨_, rfl⟩
        obtain ⟨a, ha⟩ : ∃ a, a = (encR L).2 := ⟨_, rfl⟩
        rw [← hA, ← ha] at ho henc
        rw [← hA] at hal
        clear hA ha
        have HLA := Lib.hid hla; clear hla
        have HEN := Lib.hid henc; clear henc
        obtain ⟨s, hs⟩ : ∃ s, s = bs b := ⟨_, rfl⟩
        rw [← hs] at HLOW HCUT HSG ⊢
        clear hs
        have hcat : (⟨#[120, 110, 45, 45]⟩ : ByteArray) ++ bs A = bs (pre4 ++ A) := bs_app pre4 A
        have HCT := Lib.hid hcat; clear hcat
        cases a
        all_goals
          have HO := Lib.hid ho; clear ho
          go_enter Tryz.func66, Tryz.ntmps66
          go_wp2_with (first
            | (go_at_call 100; refine (HLOW.out _).mono ?_; rintro e w2 ⟨rfl, rfl⟩)
            | (go_at_call 101; refine (HCUT.out _).mono ?_; rintro e w2 ⟨rfl, hw2⟩; subst w2)
            | (go_at_call 62; refine (HSG.out _ HT.out).mono ?_; rintro e w3 ⟨v3, rfl, ho3, hb3⟩; have HB3 := Lib.hid hb3; clear hb3; have HS3 := Lib.hid (Sl.of_own ho3); clear ho3)
            | (go_at_call 103; refine (label_any L _ _ (HS3.out.more (Nat.le_refl _))).mono ?_; rw [HLA.out]; rintro e w4 ⟨rfl, hb4⟩; have HS4 := Lib.hid ((HS3.out.below hb4).more hb4.size); have HB4 := Lib.hid (HB3.out.trans (hb4.mono HB3.out.size)); clear hb4)
            | (go_at_call 104; refine (HEN.out _ _ HS4.out).mono ?_; rintro e w5 ⟨rfl, hb5⟩; have HB5 := Lib.hid (HB4.out.trans (hb5.mono HB4.out.size)); clear hb5)
            | fail)
          go_ret2
          first
            | exact RetO.some HO.out HCT.out HB5.out
            | (rw [HCT.out]; exact RetO.none _ HO.out HB5.out)
    · rw [hl] at hlow
      have ho := hO.trans (wr_4 hp hl)
      have HO := Lib.hid ho; clear ho hO hp hl hsg
      have HLOW := Lib.hid hlow; clear hlow
      obtain ⟨s, hs⟩ : ∃ s, s = bs b := ⟨_, rfl⟩
      rw [← hs] at HLOW HCUT ⊢
      have HS := Lib.hid hs; clear hs
      go_enter Tryz.func66, Tryz.ntmps66
      go_wp2_with (first
        | (go_at_call 100; refine (HLOW.out _).mono ?_; rintro e w2 ⟨rfl, rfl⟩)
        | (go_at_call 101; refine (HCUT.out _).mono ?_; rintro e w2 ⟨rfl, hw2⟩; subst w2)
        | fail)
      go_ret2
      exact RetO.some HO.out HS.out (Below.refl _ _)
  · rw [hp] at hcut2
    have htr := htrim hp
    subst htr
    have HCUT := Lib.hid hcut2; clear hcut2 htrim hsg
    cases hl : lowS b
    · rw [hl] at hlow
      have ho := hO.trans (wr_1 hp hl)
      have HO := Lib.hid ho; clear ho hO hp hl hdec
      have HLOW := Lib.hid hlow; clear hlow
      obtain ⟨s, hs⟩ : ∃ s, s = bs b := ⟨_, rfl⟩
      rw [← hs] at HLOW HCUT ⊢
      clear hs
      go_enter Tryz.func66, Tryz.ntmps66
      go_wp2_with (first
        | (go_at_call 100; refine (HLOW.out _).mono ?_; rintro e w2 ⟨rfl, rfl⟩)
        | (go_at_call 101; refine (HCUT.out _).mono ?_; rintro e w2 ⟨rfl, hw2⟩; subst w2)
        | fail)
      go_ret2
      exact RetO.none [] HO.out (Below.refl _ _)
    · rw [hl] at hlow
      have HLOW := Lib.hid hlow; clear hlow
      cases hd : decF (b.drop 4) with
      | none =>
        have ho := hO.trans (wr_2 hp hl hd)
        rw [hd] at hdec
        have HO := Lib.hid ho; clear ho hO hp hl hd
        have HDE := Lib.hid hdec; clear hdec
        generalize b.drop 4 = r at *
        obtain ⟨s, hs⟩ : ∃ s, s = bs b := ⟨_, rfl⟩
        rw [← hs] at HLOW HCUT ⊢
        have HS := Lib.hid hs; clear hs
        go_enter Tryz.func66, Tryz.ntmps66
        go_wp2_with (first
          | (go_at_call 100; refine (HLOW.out _).mono ?_; rintro e w2 ⟨rfl, rfl⟩)
          | (go_at_call 101; refine (HCUT.out _).mono ?_; rintro e w2 ⟨rfl, hw2⟩; subst w2)
          | (go_at_call 102; refine (HDE.out _).mono ?_; rintro e w3 ⟨v3, rfl, ho3, hz3, hb3⟩; have HB3 := Lib.hid hb3; clear hb3 hz3 ho3)
          | fail)
        go_ret2
        rw [HS.out]
        exact RetO.none b HO.out HB3.out
      | some l =>
        have ho := hO.trans (wr_3 hp hl hd)
        rw [hd] at hdec
        clear hO hp hl hd
        have HDE := Lib.hid hdec; clear hdec
        generalize b.drop 4 = r at *
        obtain ⟨s, hs⟩ : ∃ s, s = bs b := ⟨_, rfl⟩
        rw [← hs] at HLOW HCUT ⊢
        have HS := Lib.hid hs; clear hs
        have hla := label_any l
        obtain ⟨m, hm⟩ : ∃ m, m = labF l := ⟨_, rfl⟩
        rw [← hm] at hla ho
        clear hm
        have HLA := Lib.hid hla; clear hla
        cases m
        all_goals
          have HO := Lib.hid ho; clear ho
          go_enter Tryz.func66, Tryz.ntmps66
          go_wp2_with (first
            | (go_at_call 100; refine (HLOW.out _).mono ?_; rintro e w2 ⟨rfl, rfl⟩)
            | (go_at_call 101; refine (HCUT.out _).mono ?_; rintro e w2 ⟨rfl, hw2⟩; subst w2)
            | (go_at_call 102; refine (HDE.out _).mono ?_; rintro e w3 ⟨v3, rfl, ho3, hz3, hb3⟩; have HB3 := Lib.hid hb3; clear hb3 hz3; simp only [Option.getD_some] at ho3; have HS3 := Lib.hid (Sl.of_own ho3); clear ho3)
            | (go_at_call 103; refine (HLA.out _ _ HS3.out).mono ?_; rintro e w4 ⟨rfl, hb4⟩; have HB4 := Lib.hid (HB3.out.trans (hb4.mono HB3.out.size)); clear hb4)
            | fail)
          go_ret2
          first
            | exact RetO.some HO.out HS.out HB4.out
            | (rw [HS.out]; exact RetO.none b HO.out HB4.out)
end Go.Proofs.YtgfklkfbccknoaaGreatDoor

/- The reference's label of layer 8. -/
namespace Go.Proofs.YtgfklkfbccknoaaGreatDoor
open Go.RowKit
set_option maxRecDepth 10000

theorem enc_len2 {c : Int} (hv : Utf8.valid c = true) (h : ¬ c < 0x80) : 2 ≤ (enc c).length ∧ lowS (enc c) = false := by
  have hr := (valid_iff c).mp hv
  by_cases h2 : c < 0x800
  · rw [enc_2 (by omega) h2]
    refine ⟨by simp, ?_⟩
    unfold lowS
    simp only [List.all_cons]
    rw [b2_of (by omega), decide_eq_false (by omega)]; rfl
  · by_cases h3 : c < 0x10000
    · rw [enc_3 (by omega) h3 (by omega)]
      refine ⟨by simp, ?_⟩
      unfold lowS
      simp only [List.all_cons]
      rw [b2_of (by omega), decide_eq_false (by omega)]; rfl
    · rw [enc_4 (by omega) (by omega)]
      refine ⟨by simp, ?_⟩
      unfold lowS
      simp only [List.all_cons]
      rw [b2_of (by omega), decide_eq_false (by omega)]; rfl
theorem low_app (a b : Bytes) : lowS (a ++ b) = (lowS a && lowS b) := by unfold lowS; rw [List.all_append]
theorem enc_low {c : Int} (hv : Utf8.valid c = true) (h : c < 0x80) : (enc c).length = 1 ∧ lowS (enc c) = true := by
  have hr := (valid_iff c).mp hv
  rw [enc_1 (by omega) h]
  refine ⟨rfl, ?_⟩
  unfold lowS
  simp only [List.all_cons, List.all_nil, Bool.and_true]
  rw [b2_of (by omega), decide_eq_true h]
theorem join_ge : ∀ l : List Int, l.length ≤ (joinF l).length
  | [] => by simp
  | c :: r => by
    have := join_ge r
    have := (enc_len c).1
    rw [joinF_cons, List.length_append, List.length_cons]; omega
theorem plain_join : ∀ l : List Int, (∀ c ∈ l, Utf8.valid c = true) → decide (l.length = (joinF l).length) = lowS (joinF l)
  | [], _ => by simp [joinF, lowS]
  | c :: r, h => by
    have ih := plain_join r (fun x hx => h x (by simp [hx]))
    have hc := h c (by simp)
    have hge := join_ge r
    rw [joinF_cons, low_app, List.length_append, List.length_cons]
    by_cases hl : c < 0x80
    · obtain ⟨h1, h2⟩ := enc_low hc hl
      rw [h1, h2, Bool.true_and, ← ih]
      rw [decide_eq_decide]; omega
    · obtain ⟨h1, h2⟩ := enc_len2 hc hl
      rw [h2, Bool.false_and, decide_eq_false (by omega)]
theorem plain_low {b : Bytes} (h : rdec b = b) : decide ((signs b).length = b.length) = lowS b := by
  have e := plain_join (signs b) (signs_valid b)
  have hj : joinF (signs b) = b := h
  rw [hj] at e
  exact e
theorem pre_take (b : Bytes) : Lib.hasPrefix b pre4 = (decide (4 ≤ b.length) && (b.take 4 == pre4)) := (Lib.hasPrefix_of_take b pre4).symm
/-- what the walk tells of the test for what stands ahead -/
theorem pre_cases (b : Bytes) : (b.length < 4 ∧ Lib.hasPrefix b pre4 = false) ∨ (4 ≤ b.length ∧ ((bs b).extract 0 4).toList = b.take 4 ∧ (b.take 4 == pre4) = Lib.hasPrefix b pre4) := by
  by_cases h : 4 ≤ b.length
  · right
    refine ⟨h, by rw [bs_extract, toList_bs]; simp, ?_⟩
    rw [pre_take, decide_eq_true h, Bool.true_and]
  · left
    refine ⟨by omega, ?_⟩
    rw [pre_take, decide_eq_false h, Bool.false_and]
theorem wr_ref {b : Bytes} {l : List Int} {m : Bool} (h : Lib.hasPrefix b pre4 = true) (h2 : lowS b = true) (h3 : decF (b.drop 4) = some l) (h4 : labF l = m) : wrF b = if m = true then some b else none := by rw [wr_3 h h2 h3, h4]

set_option maxHeartbeats 8000000 in
theorem rlab_any (b : Bytes) (w : World) (hb : b.length ≤ 100000) (hv : rdec b = b) : Calls Tryz.prog 49 #[.string (bs b)] w fun e w' => RetO w (wrF b) e w' := by
  have hsg := fun W => rsigns_any (bs b) W (by rw [bs_size]; omega)
  rw [ls_bs] at hsg
  have hpl := plain_low hv
  clear hv
  have hdec := fun W => rdecode_any (b.drop 4) W (by rw [List.length_drop]; omega)
  have hdr := drop_str b 4
  obtain ⟨O, hO⟩ : ∃ O, O = wrF b := ⟨_, rfl⟩
  rw [← hO]
  have hsz : (bs b).size = b.length := bs_size b
  have henc := rencode_any (signs b)
  have hal := encR_len (signs b)
  have hlab := rlabel_any (signs b)
  have h5 : lowS b = false → labF (signs b) = false → Lib.hasPrefix b pre4 = false → O = none := fun h1 h2 h3 => hO.trans (wr_5 h3 h1 h2)
  have h6 : lowS b = false → labF (signs b) = true → Lib.hasPrefix b pre4 = false → O = if (encR (signs b)).2 = true then some (pre4 ++ (encR (signs b)).1) else none := fun h1 h2 h3 => hO.trans (wr_6 h3 h1 h2)
  have hsll := signs_len _ b (Nat.le_refl _)
  obtain ⟨L, hL⟩ : ∃ L, L = signs b := ⟨_, rfl⟩
  rw [← hL] at hsg hpl henc hal hlab h5 h6 hsll
  clear hL
  obtain ⟨n, hn⟩ : ∃ n, n = L.length := ⟨_, rfl⟩
  obtain ⟨z, hz⟩ : ∃ z, z = b.length := ⟨_, rfl⟩
  rw [← hn, ← hz] at hpl
  rw [← hn] at hsll
  rw [← hz] at hsz hb hsll
  have hn' : L.length = n := hn.symm
  have hpl1 : lowS b = true → n = z := fun h => of_decide_eq_true (hpl.trans h)
  have hpl2 : lowS b = false → ((n : Int) == (z : Int)) = false := fun h => by
    have := of_decide_eq_false (hpl.trans h)
    simp; omega
  clear hpl hn
  have hpc := pre_cases b
  have hs4 : (bs b).size = z := hsz
  rw [← hz] at hpc
  have HZ := Lib.hid hz; clear hz
  obtain ⟨s, hs⟩ : ∃ s, s = bs b := ⟨_, rfl⟩
  rw [← hs] at hsg hdr hpc hsz ⊢
  clear hs4
  rw [hsz] at hdr
  obtain ⟨D, hD⟩ : ∃ D, D = b.drop 4 := ⟨_, rfl⟩
  rw [← hD] at hdec hdr
  have HS := Lib.hid hs; clear hs
  have HSG := Lib.hid hsg; clear hsg
  obtain ⟨lo, hlo⟩ : ∃ lo, lo = lowS b := ⟨_, rfl⟩
  have hwr2 : lowS b = true → ∀ l m, Lib.hasPrefix b pre4 = true → decF D = some l → labF l = m → O = if m = true then some b else none := fun h l m h1 h2 h3 => hO.trans (wr_ref h1 h (by rw [← hD]; exact h2) h3)
  have hwr3 : lowS b = true → Lib.hasPrefix b pre4 = true → decF D = none → O = none := fun h h1 h2 => hO.trans (wr_2 h1 h (by rw [← hD]; exact h2))
  have hwr1 : lowS b = false → Lib.hasPrefix b pre4 = true → O = none := fun h h1 => hO.trans (wr_1 h1 h)
  have hwr4 : lowS b = true → Lib.hasPrefix b pre4 = false → O = some b := fun h h1 => hO.trans (wr_4 h1 h)
  rw [← hlo] at hpl1 hpl2 hwr1 hwr2 hwr3 hwr4 h5 h6
  clear hlo hD hO
  obtain ⟨pf, hpf⟩ : ∃ pf, pf = Lib.hasPrefix b pre4 := ⟨_, rfl⟩
  rw [← hpf] at hwr1 hwr2 hwr3 hwr4 h5 h6 hpc
  clear hpf
  have HEN := Lib.hid henc; clear henc
  have HLA := Lib.hid hlab; clear hlab
  have HDE := Lib.hid hdec; clear hdec
  have HDR := Lib.hid hdr; clear hdr
  have H1 := Lib.hid hwr1; clear hwr1
  have H2 := Lib.hid hwr2; clear hwr2
  have H3 := Lib.hid hwr3; clear hwr3
  have H4 := Lib.hid hwr4; clear hwr4
  have H5 := Lib.hid h5; clear h5
  have H6 := Lib.hid h6; clear h6
  have hp4 : pre4 = [120, 110, 45, 45] := rfl
  rcases hpc with ⟨hz4, rfl⟩ | ⟨hz4, hex, hpe⟩
  · -- too short
    cases lo
    · -- not plain: letters of puny
      have hnz := hpl2 rfl
      clear hpl1 hpl2
      have h5 := H5.out rfl
      have h6 := H6.out rfl
      clear H1 H2 H3 H4 HDE HDR H5 H6
      obtain ⟨A, hA⟩ : ∃ A, A = (encR L).1 := ⟨_, rfl⟩
      obtain ⟨a, ha⟩ : ∃ a, a = (encR L).2 := ⟨_, rfl⟩
      obtain ⟨m, hm⟩ : ∃ m, m = labF L := ⟨_, rfl⟩
      rw [← hA, ← ha, ← hm] at h6
      rw [← hm] at h5 HLA
      rw [← hA, ← ha] at HEN
      rw [← hA] at hal
      clear hA ha hm
      have hcat : (⟨#[120, 110, 45, 45]⟩ : ByteArray) ++ bs A = bs (pre4 ++ A) := bs_app pre4 A
      have HCT := Lib.hid hcat; clear hcat
      cases a
      · have ho : O = none := by
          cases m
          · exact h5 rfl rfl
          · exact h6 rfl rfl
        have HO := Lib.hid ho; clear ho h5 h6
        go_enter Tryz.func49, Tryz.ntmps49
        go_wp2_with (first | (go_at_call 47; refine (HSG.out _).mono ?_; rintro e w3 ⟨v3, rfl, ho3, hb3⟩; have HB3 := Lib.hid hb3; clear hb3; have HS3 := Lib.hid (Sl.of_own ho3); obtain ⟨a3, c3, hv3⟩ := slice_val (Sl.of_own ho3); rw [show (I64s L).length = n by rw [List.length_map, hn']] at hv3; subst hv3; clear ho3) | (go_at_call 83; refine (HEN.out _ _ HS3.out).mono ?_; rintro e w5 ⟨rfl, hb5⟩; have HS5 := Lib.hid ((HS3.out.below hb5).more hb5.size); have HB5 := Lib.hid (HB3.out.trans (hb5.mono HB3.out.size)); clear hb5) | fail)
        go_ret2
        rw [HCT.out]
        exact RetO.none _ HO.out HB5.out
      · cases m
        · have HO := Lib.hid (h5 rfl rfl); clear h5 h6
          go_enter Tryz.func49, Tryz.ntmps49
          go_wp2_with (first | (go_at_call 47; refine (HSG.out _).mono ?_; rintro e w3 ⟨v3, rfl, ho3, hb3⟩; have HB3 := Lib.hid hb3; clear hb3; have HS3 := Lib.hid (Sl.of_own ho3); obtain ⟨a3, c3, hv3⟩ := slice_val (Sl.of_own ho3); rw [show (I64s L).length = n by rw [List.length_map, hn']] at hv3; subst hv3; clear ho3) | (go_at_call 83; refine (HEN.out _ _ HS3.out).mono ?_; rintro e w5 ⟨rfl, hb5⟩; have HS5 := Lib.hid ((HS3.out.below hb5).more hb5.size); have HB5 := Lib.hid (HB3.out.trans (hb5.mono HB3.out.size)); clear hb5) | (go_at_call 82; refine (HLA.out _ _ HS5.out).mono ?_; rintro e w6 ⟨rfl, hb6⟩; have HB6 := Lib.hid (HB5.out.trans (hb6.mono HB5.out.size)); clear hb6) | fail)
          go_ret2
          rw [HCT.out]
          exact RetO.none _ HO.out HB6.out
        · have HO := Lib.hid (h6 rfl rfl); clear h5 h6
          go_enter Tryz.func49, Tryz.ntmps49
          go_wp2_with (first | (go_at_call 47; refine (HSG.out _).mono ?_; rintro e w3 ⟨v3, rfl, ho3, hb3⟩; have HB3 := Lib.hid hb3; clear hb3; have HS3 := Lib.hid (Sl.of_own ho3); obtain ⟨a3, c3, hv3⟩ := slice_val (Sl.of_own ho3); rw [show (I64s L).length = n by rw [List.length_map, hn']] at hv3; subst hv3; clear ho3) | (go_at_call 83; refine (HEN.out _ _ HS3.out).mono ?_; rintro e w5 ⟨rfl, hb5⟩; have HS5 := Lib.hid ((HS3.out.below hb5).more hb5.size); have HB5 := Lib.hid (HB3.out.trans (hb5.mono HB3.out.size)); clear hb5) | (go_at_call 82; refine (HLA.out _ _ HS5.out).mono ?_; rintro e w6 ⟨rfl, hb6⟩; have HB6 := Lib.hid (HB5.out.trans (hb6.mono HB5.out.size)); clear hb6) | fail)
          go_ret2
          exact RetO.some HO.out HCT.out HB6.out
    · have hnz := hpl1 rfl
      clear hpl1 hpl2
      subst hnz
      have HO := Lib.hid (H4.out rfl rfl)
      clear H1 H2 H3 H4 HDE HDR H5 H6
      go_enter Tryz.func49, Tryz.ntmps49
      go_wp2_with (first | (go_at_call 47; refine (HSG.out _).mono ?_; rintro e w3 ⟨v3, rfl, ho3, hb3⟩; have HB3 := Lib.hid hb3; clear hb3; have HS3 := Lib.hid (Sl.of_own ho3); obtain ⟨a3, c3, hv3⟩ := slice_val (Sl.of_own ho3); rw [show (I64s L).length = n by rw [List.length_map, hn']] at hv3; subst hv3; clear ho3) | fail)
      go_ret2
      exact RetO.some HO.out HS.out HB3.out
  · have hc1 : ((s.extract 0 4).toList == (⟨#[120, 110, 45, 45]⟩ : ByteArray).toList) = pf := by
      rw [hex, toList_ls]; exact hpe
    have hc2 : ((s.extract 0 4).toList == [120, 110, 45, 45]) = pf := by
      rw [hex]; exact hpe
    clear hex hpe
    cases pf
    · cases lo
      · -- not plain: letters of puny
        have hnz := hpl2 rfl
        clear hpl1 hpl2
        have h5 := H5.out rfl
        have h6 := H6.out rfl
        clear H1 H2 H3 H4 HDE HDR H5 H6
        obtain ⟨A, hA⟩ : ∃ A, A = (encR L).1 := ⟨_, rfl⟩
        obtain ⟨a, ha⟩ : ∃ a, a = (encR L).2 := ⟨_, rfl⟩
        obtain ⟨m, hm⟩ : ∃ m, m = labF L := ⟨_, rfl⟩
        rw [← hA, ← ha, ← hm] at h6
        rw [← hm] at h5 HLA
        rw [← hA, ← ha] at HEN
        rw [← hA] at hal
        clear hA ha hm
        have hcat : (⟨#[120, 110, 45, 45]⟩ : ByteArray) ++ bs A = bs (pre4 ++ A) := bs_app pre4 A
        have HCT := Lib.hid hcat; clear hcat
        cases a
        · have ho : O = none := by
            cases m
            · exact h5 rfl rfl
            · exact h6 rfl rfl
          have HO := Lib.hid ho; clear ho h5 h6
          go_enter Tryz.func49, Tryz.ntmps49
          go_wp2_with (first | (go_at_call 47; refine (HSG.out _).mono ?_; rintro e w3 ⟨v3, rfl, ho3, hb3⟩; have HB3 := Lib.hid hb3; clear hb3; have HS3 := Lib.hid (Sl.of_own ho3); obtain ⟨a3, c3, hv3⟩ := slice_val (Sl.of_own ho3); rw [show (I64s L).length = n by rw [List.length_map, hn']] at hv3; subst hv3; clear ho3) | (go_at_call 83; refine (HEN.out _ _ HS3.out).mono ?_; rintro e w5 ⟨rfl, hb5⟩; have HS5 := Lib.hid ((HS3.out.below hb5).more hb5.size); have HB5 := Lib.hid (HB3.out.trans (hb5.mono HB3.out.size)); clear hb5) | fail)
          go_ret2
          rw [HCT.out]
          exact RetO.none _ HO.out HB5.out
        · cases m
          · have HO := Lib.hid (h5 rfl rfl); clear h5 h6
            go_enter Tryz.func49, Tryz.ntmps49
            go_wp2_with (first | (go_at_call 47; refine (HSG.out _).mono ?_; rintro e w3 ⟨v3, rfl, ho3, hb3⟩; have HB3 := Lib.hid hb3; clear hb3; have HS3 := Lib.hid (Sl.of_own ho3); obtain ⟨a3, c3, hv3⟩ := slice_val (Sl.of_own ho3); rw [show (I64s L).length = n by rw [List.length_map, hn']] at hv3; subst hv3; clear ho3) | (go_at_call 83; refine (HEN.out _ _ HS3.out).mono ?_; rintro e w5 ⟨rfl, hb5⟩; have HS5 := Lib.hid ((HS3.out.below hb5).more hb5.size); have HB5 := Lib.hid (HB3.out.trans (hb5.mono HB3.out.size)); clear hb5) | (go_at_call 82; refine (HLA.out _ _ HS5.out).mono ?_; rintro e w6 ⟨rfl, hb6⟩; have HB6 := Lib.hid (HB5.out.trans (hb6.mono HB5.out.size)); clear hb6) | fail)
            go_ret2
            rw [HCT.out]
            exact RetO.none _ HO.out HB6.out
          · have HO := Lib.hid (h6 rfl rfl); clear h5 h6
            go_enter Tryz.func49, Tryz.ntmps49
            go_wp2_with (first | (go_at_call 47; refine (HSG.out _).mono ?_; rintro e w3 ⟨v3, rfl, ho3, hb3⟩; have HB3 := Lib.hid hb3; clear hb3; have HS3 := Lib.hid (Sl.of_own ho3); obtain ⟨a3, c3, hv3⟩ := slice_val (Sl.of_own ho3); rw [show (I64s L).length = n by rw [List.length_map, hn']] at hv3; subst hv3; clear ho3) | (go_at_call 83; refine (HEN.out _ _ HS3.out).mono ?_; rintro e w5 ⟨rfl, hb5⟩; have HS5 := Lib.hid ((HS3.out.below hb5).more hb5.size); have HB5 := Lib.hid (HB3.out.trans (hb5.mono HB3.out.size)); clear hb5) | (go_at_call 82; refine (HLA.out _ _ HS5.out).mono ?_; rintro e w6 ⟨rfl, hb6⟩; have HB6 := Lib.hid (HB5.out.trans (hb6.mono HB5.out.size)); clear hb6) | fail)
            go_ret2
            exact RetO.some HO.out HCT.out HB6.out
      · have hnz := hpl1 rfl
        clear hpl1 hpl2
        subst hnz
        have HO := Lib.hid (H4.out rfl rfl)
        clear H1 H2 H3 H4 HDE HDR H5 H6
        go_enter Tryz.func49, Tryz.ntmps49
        go_wp2_with (first | (go_at_call 47; refine (HSG.out _).mono ?_; rintro e w3 ⟨v3, rfl, ho3, hb3⟩; have HB3 := Lib.hid hb3; clear hb3; have HS3 := Lib.hid (Sl.of_own ho3); obtain ⟨a3, c3, hv3⟩ := slice_val (Sl.of_own ho3); rw [show (I64s L).length = n by rw [List.length_map, hn']] at hv3; subst hv3; clear ho3) | fail)
        go_ret2
        exact RetO.some HO.out HS.out HB3.out
    · cases lo
      · have hnz := hpl2 rfl
        have HO := Lib.hid (H1.out rfl rfl)
        clear hpl1 hpl2 H1 H2 H3 H4 H5 H6
        have hdr := HDR.out
        cases hd : decF D
        all_goals
          rw [hd] at HDE
          clear hd
          go_enter Tryz.func49, Tryz.ntmps49
          go_wp2_with (first | (go_at_call 47; refine (HSG.out _).mono ?_; rintro e w3 ⟨v3, rfl, ho3, hb3⟩; have HB3 := Lib.hid hb3; clear hb3; have HS3 := Lib.hid (Sl.of_own ho3); obtain ⟨a3, c3, hv3⟩ := slice_val (Sl.of_own ho3); rw [show (I64s L).length = n by rw [List.length_map, hn']] at hv3; subst hv3; clear ho3) | (go_at_call 81; refine (HDE.out _).mono ?_; rintro e w5 ⟨v5, rfl, ho5, _, hb5⟩; have HB5 := Lib.hid (HB3.out.trans (hb5.mono HB3.out.size)); clear hb5; have HS5 := Lib.hid (Sl.of_own ho5); clear ho5) | fail)
          go_ret2
          rw [HS.out]
          exact RetO.none b HO.out HB5.out
      · have hnz := hpl1 rfl
        clear hpl1 hpl2
        subst hnz
        have hdr := HDR.out
        cases hd : decF D with
        | none =>
          have HO := Lib.hid (H3.out rfl rfl hd)
          rw [hd] at HDE
          clear hd H1 H2 H3 H4 H5 H6
          go_enter Tryz.func49, Tryz.ntmps49
          go_wp2_with (first | (go_at_call 47; refine (HSG.out _).mono ?_; rintro e w3 ⟨v3, rfl, ho3, hb3⟩; have HB3 := Lib.hid hb3; clear hb3; have HS3 := Lib.hid (Sl.of_own ho3); obtain ⟨a3, c3, hv3⟩ := slice_val (Sl.of_own ho3); rw [show (I64s L).length = n by rw [List.length_map, hn']] at hv3; subst hv3; clear ho3) | (go_at_call 81; refine (HDE.out _).mono ?_; rintro e w5 ⟨v5, rfl, ho5, _, hb5⟩; have HB5 := Lib.hid (HB3.out.trans (hb5.mono HB3.out.size)); clear hb5; have HS5 := Lib.hid (Sl.of_own ho5); clear ho5) | fail)
          go_ret2
          rw [HS.out]
          exact RetO.none b HO.out HB5.out
        | some l =>
          have ho := H2.out rfl l (labF l) rfl hd rfl
          have hll := rlabel_any l
          obtain ⟨m, hm⟩ : ∃ m, m = labF l := ⟨_, rfl⟩
          rw [← hm] at ho hll
          rw [hd] at HDE
          clear hd hm H1 H2 H3 H4 H5 H6 HLA
          have HLA := Lib.hid hll; clear hll
          cases m
          all_goals
            have HO := Lib.hid ho; clear ho
            go_enter Tryz.func49, Tryz.ntmps49
            go_wp2_with (first | (go_at_call 47; refine (HSG.out _).mono ?_; rintro e w3 ⟨v3, rfl, ho3, hb3⟩; have HB3 := Lib.hid hb3; clear hb3; have HS3 := Lib.hid (Sl.of_own ho3); obtain ⟨a3, c3, hv3⟩ := slice_val (Sl.of_own ho3); rw [show (I64s L).length = n by rw [List.length_map, hn']] at hv3; subst hv3; clear ho3) | (go_at_call 81; refine (HDE.out _).mono ?_; rintro e w5 ⟨v5, rfl, ho5, _, hb5⟩; have HB5 := Lib.hid (HB3.out.trans (hb5.mono HB3.out.size)); clear hb5; have HS5 := Lib.hid (Sl.of_own ho5); clear ho5) | (go_at_call 82; refine (HLA.out _ _ HS5.out).mono ?_; rintro e w6 ⟨rfl, hb6⟩; have HB6 := Lib.hid (HB5.out.trans (hb6.mono HB5.out.size)); clear hb6) | fail)
            go_ret2
            first
              | exact RetO.some HO.out HS.out HB6.out
              | (rw [HS.out]; exact RetO.none b HO.out HB6.out)
end Go.Proofs.YtgfklkfbccknoaaGreatDoor
