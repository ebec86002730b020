/- idna.written: a label as it stands in a name. -/
import Derived.Test.YtpckaimpjccjhaaGreatDoorGIdnC
import Derived.Test.YtpckaimpjccjhaaGreatDoorGPunJ
import Derived.Test.YtpckaimpjccjhaaGreatDoorGUtfD
set_option maxHeartbeats 40000000
namespace Go.Proofs.YtpckaimpjccjhaaGreatDoor
open Go.RowKit
set_option maxRecDepth 10000
def pre4 : Bytes := [120, 110, 45, 45]
def wrF (b : Bytes) : Option Bytes :=
 if Lib.hasPrefix b pre4 = true then
  (if lowS b = true then (match decF (b.drop 4) with | some l => if labF l = true then some b else none | none => none) else none)
 else if lowS b = true then some b
 else if labF (signs b) = true then (if (encR (signs b)).2 = true then some (pre4 ++ (encR (signs b)).1) else none) else none
def RetO (w : World) (o : Option Bytes) : Ending -> World -> Prop := fun e w' => ∃ x, e = .returned (.tuple #[S x, .bool o.isSome]) ∧ (∀ y, o = some y -> x = y) ∧ Below w.heap.size w w'
theorem RetO.none {w w' : World} {o : Option Bytes} (x : Bytes) (h : o = none) (hb : Below w.heap.size w w') : RetO w o (.returned (.tuple #[S x, .bool false])) w' := by
 subst h; exact ⟨_, rfl, fun _ h => (by cases h), hb⟩
theorem RetO.some {w w' : World} {o : Option Bytes} {x : Bytes} {s : ByteArray} (h : o = some x) (hs : s = bs x) (hb : Below w.heap.size w w') : RetO w o (.returned (.tuple #[.string s, .bool true])) w' := by
 subst h; subst hs; exact ⟨_, rfl, fun _ h => Option.some.inj h, hb⟩
theorem wr_1 {b : Bytes} (h : Lib.hasPrefix b pre4 = true) (h2 : lowS b = false) : wrF b = none := by unfold wrF; rw [if_pos h, if_neg (by simp [h2])]
theorem wr_2 {b : Bytes} (h : Lib.hasPrefix b pre4 = true) (h2 : lowS b = true) (h3 : decF (b.drop 4) = none) : wrF b = none := by unfold wrF; rw [if_pos h, if_pos h2, h3]
theorem wr_3 {b : Bytes} {l : List Int} (h : Lib.hasPrefix b pre4 = true) (h2 : lowS b = true) (h3 : decF (b.drop 4) = some l) : wrF b = if labF l = true then some b else none := by unfold wrF; rw [if_pos h, if_pos h2, h3]
theorem wr_4 {b : Bytes} (h : Lib.hasPrefix b pre4 = false) (h2 : lowS b = true) : wrF b = some b := by unfold wrF; rw [if_neg (by simp [h]), if_pos h2]
theorem wr_5 {b : Bytes} (h : Lib.hasPrefix b pre4 = false) (h2 : lowS b = false) (h3 : labF (signs b) = false) : wrF b = none := by unfold wrF; rw [if_neg (by simp [h]), if_neg (by simp [h2]), if_neg (by simp [h3])]
theorem wr_6 {b : Bytes} (h : Lib.hasPrefix b pre4 = false) (h2 : lowS b = false) (h3 : labF (signs b) = true) : wrF b = if (encR (signs b)).2 = true then some (pre4 ++ (encR (signs b)).1) else none := by unfold wrF; rw [if_neg (by simp [h]), if_neg (by simp [h2]), if_pos h3]
theorem encR_len (l : List Int) : (encR l).1.length <= 3000 := by
 unfold encR
 split
 ·simp
 ·next h =>
  have h1 : l.all sg = true := by
   by_cases h2 : l.all sg = true
   ·exact h2
   ·exact absurd (.inr h2) h
  exact encF_len (List.all_eq_true.mp h1) (by omega)
theorem tsigns (b : Bytes) (w : World) (hb : b.length <= 307200000) (hT : Tabs w) : Calls Tryz.prog 217 #[.string (bs b)] w fun e w' => RetRow w 3 (I64s (signs b)) e w' := by
 have h := signsT_any (bs b) w (by rw [bs_size]; exact hb) hT
 rw [ls_bs, runes_decT] at h
 exact h
theorem written_any (b : Bytes) (w : World) (hb : b.length <= 102400000) (hT : Tabs w) : Calls Tryz.prog 220 #[.string (bs b)] w fun e w' => RetO w (wrF b) e w' := by
 have hlow := fun W => isLow_any b W (by unfold maxLen; omega)
 have hcut := fun W => Any.strings_CutPrefix Tryz.laysCut (bs b) (bs pre4) W
 have hsg := fun W (h : Tabs W) => tsigns b W (by omega) h
 have hdec := fun W => decode_core (b.drop 4) W (by rw [List.length_drop]; omega)
 have e1 : (bs b).data.toList = b := ls_bs b
 have e2 : (bs pre4).data.toList = pre4 := ls_bs pre4
 rw [e1, e2] at hcut
 have hcut2 : ∀ W, Calls Tryz.prog 131 #[.string (bs b), .string ⟨#[120, 110, 45, 45]⟩] W fun e w' => e = .returned (.tuple #[.string (bs (Lib.trimPrefix b pre4)), .bool (Lib.hasPrefix b pre4)]) ∧ w' = W := hcut
 clear hcut e1 e2
 have htrim : Lib.hasPrefix b pre4 = true -> Lib.trimPrefix b pre4 = b.drop 4 := fun h => by unfold Lib.trimPrefix; rw [if_pos h]; rfl
 obtain ⟨O, hO⟩ := ex_ (wrF b)
 rw [<- hO]
 obtain ⟨R, hR⟩ := ex_ (Lib.trimPrefix b pre4)
 rw [<- hR] at hcut2 htrim
 clear hR
 have HT := h_ hT; clear hT
 cases hp : Lib.hasPrefix b pre4
 ·rw [hp] at hcut2
  have HCUT := h_ hcut2; clear hcut2 htrim hdec
  cases hl : lowS b
  ·rw [hl] at hlow
   have HLOW := h_ hlow; clear hlow
   have HSG := h_ hsg; clear hsg
   cases hla : labF (signs b)
   ·have ho := hO.trans (wr_5 hp hl hla)
    have HO := h_ ho; clear ho hO hp hl
    obtain ⟨L, hL⟩ := ex_ (signs b)
    rw [<- hL] at hla HSG
    have HLA := h_ hla; clear hla hL
    obtain ⟨s, hs⟩ := ex_ (bs b)
    rw [<- hs] at HLOW HCUT HSG ⊢
    clear hs
    go_enter Tryz.func220, Tryz.ntmps220
    go_wp2_with (first
     | (go_at_call 231; refine (HLOW.out _).mono ?_; rintro e w2 ⟨rfl, rfl⟩)
     | (go_at_call 131; refine (HCUT.out _).mono ?_; rintro e w2 ⟨rfl, hw2⟩; subst w2)
     | (go_at_call 217; refine (HSG.out _ HT.out).mono ?_; rintro e w3 ⟨v3, rfl, ho3, hb3⟩; have HB3 := h_ hb3; clear hb3; have HS3 := h_ (Sl.of_own ho3); clear ho3)
     | (go_at_call 233; refine (label_any L _ _ (HS3.out.more (Nat.le_refl _))).mono ?_; rw [HLA.out]; rintro e w4 ⟨rfl, hb4⟩; have HB4 := h_ (HB3.out.trans (hb4.mono HB3.out.size)); clear hb4)
     | fail)
    go_ret2
    exact RetO.none [] HO.out HB4.out
   ·have ho := hO.trans (wr_6 hp hl hla)
    have henc := encode_any (signs b)
    have hal := encR_len (signs b)
    obtain ⟨L, hL⟩ := ex_ (signs b)
    rw [<- hL] at hla HSG ho henc hal
    clear hL hO hp hl
    obtain ⟨A, hA⟩ := ex_ ((encR L).1)
    obtain ⟨a, ha⟩ := ex_ ((encR L).2)
    rw [<- hA, <- ha] at ho henc
    rw [<- hA] at hal
    clear hA ha
    have HLA := h_ hla; clear hla
    have HEN := h_ henc; clear henc
    obtain ⟨s, hs⟩ := ex_ (bs b)
    rw [<- hs] at HLOW HCUT HSG ⊢
    clear hs
    have hcat : (⟨#[120, 110, 45, 45]⟩ : ByteArray) ++ bs A = bs (pre4 ++ A) := bs_app pre4 A
    have HCT := h_ hcat; clear hcat
    cases a
    all_goals
     have HO := h_ ho; clear ho
     go_enter Tryz.func220, Tryz.ntmps220
     go_wp2_with (first
      | (go_at_call 231; refine (HLOW.out _).mono ?_; rintro e w2 ⟨rfl, rfl⟩)
      | (go_at_call 131; refine (HCUT.out _).mono ?_; rintro e w2 ⟨rfl, hw2⟩; subst w2)
      | (go_at_call 217; refine (HSG.out _ HT.out).mono ?_; rintro e w3 ⟨v3, rfl, ho3, hb3⟩; have HB3 := h_ hb3; clear hb3; have HS3 := h_ (Sl.of_own ho3); clear ho3)
      | (go_at_call 233; refine (label_any L _ _ (HS3.out.more (Nat.le_refl _))).mono ?_; rw [HLA.out]; rintro e w4 ⟨rfl, hb4⟩; have HS4 := h_ ((HS3.out.below hb4).more hb4.size); have HB4 := h_ (HB3.out.trans (hb4.mono HB3.out.size)); clear hb4)
      | (go_at_call 234; refine (HEN.out _ _ HS4.out).mono ?_; rintro e w5 ⟨rfl, hb5⟩; have HB5 := h_ (HB4.out.trans (hb5.mono HB4.out.size)); clear hb5)
      | fail)
     go_ret2
     first
      | exact RetO.some HO.out HCT.out HB5.out
      | (rw [HCT.out]; exact RetO.none _ HO.out HB5.out)
  ·rw [hl] at hlow
   have ho := hO.trans (wr_4 hp hl)
   have HO := h_ ho; clear ho hO hp hl hsg
   have HLOW := h_ hlow; clear hlow
   obtain ⟨s, hs⟩ := ex_ (bs b)
   rw [<- hs] at HLOW HCUT ⊢
   have HS := h_ hs; clear hs
   go_enter Tryz.func220, Tryz.ntmps220
   go_wp2_with (first
    | (go_at_call 231; refine (HLOW.out _).mono ?_; rintro e w2 ⟨rfl, rfl⟩)
    | (go_at_call 131; refine (HCUT.out _).mono ?_; rintro e w2 ⟨rfl, hw2⟩; subst w2)
    | fail)
   go_ret2
   exact RetO.some HO.out HS.out (Below.refl _ _)
 ·rw [hp] at hcut2
  have htr := htrim hp
  subst htr
  have HCUT := h_ hcut2; clear hcut2 htrim hsg
  cases hl : lowS b
  ·rw [hl] at hlow
   have ho := hO.trans (wr_1 hp hl)
   have HO := h_ ho; clear ho hO hp hl hdec
   have HLOW := h_ hlow; clear hlow
   obtain ⟨s, hs⟩ := ex_ (bs b)
   rw [<- hs] at HLOW HCUT ⊢
   clear hs
   go_enter Tryz.func220, Tryz.ntmps220
   go_wp2_with (first
    | (go_at_call 231; refine (HLOW.out _).mono ?_; rintro e w2 ⟨rfl, rfl⟩)
    | (go_at_call 131; refine (HCUT.out _).mono ?_; rintro e w2 ⟨rfl, hw2⟩; subst w2)
    | fail)
   go_ret2
   exact RetO.none [] HO.out (Below.refl _ _)
  ·rw [hl] at hlow
   have HLOW := h_ hlow; clear hlow
   cases hd : decF (b.drop 4) with
   | none =>
    have ho := hO.trans (wr_2 hp hl hd)
    rw [hd] at hdec
    have HO := h_ ho; clear ho hO hp hl hd
    have HDE := h_ hdec; clear hdec
    generalize b.drop 4 = r at *
    obtain ⟨s, hs⟩ := ex_ (bs b)
    rw [<- hs] at HLOW HCUT ⊢
    have HS := h_ hs; clear hs
    go_enter Tryz.func220, Tryz.ntmps220
    go_wp2_with (first
     | (go_at_call 231; refine (HLOW.out _).mono ?_; rintro e w2 ⟨rfl, rfl⟩)
     | (go_at_call 131; refine (HCUT.out _).mono ?_; rintro e w2 ⟨rfl, hw2⟩; subst w2)
     | (go_at_call 232; refine (HDE.out _).mono ?_; rintro e w3 ⟨v3, rfl, ho3, hz3, hb3⟩; have HB3 := h_ hb3; clear hb3 hz3 ho3)
     | fail)
    go_ret2
    rw [HS.out]
    exact RetO.none b HO.out HB3.out
   | some l =>
    have ho := hO.trans (wr_3 hp hl hd)
    rw [hd] at hdec
    clear hO hp hl hd
    have HDE := h_ hdec; clear hdec
    generalize b.drop 4 = r at *
    obtain ⟨s, hs⟩ := ex_ (bs b)
    rw [<- hs] at HLOW HCUT ⊢
    have HS := h_ hs; clear hs
    have hla := label_any l
    obtain ⟨m, hm⟩ := ex_ (labF l)
    rw [<- hm] at hla ho
    clear hm
    have HLA := h_ hla; clear hla
    cases m
    all_goals
     have HO := h_ ho; clear ho
     go_enter Tryz.func220, Tryz.ntmps220
     go_wp2_with (first
      | (go_at_call 231; refine (HLOW.out _).mono ?_; rintro e w2 ⟨rfl, rfl⟩)
      | (go_at_call 131; refine (HCUT.out _).mono ?_; rintro e w2 ⟨rfl, hw2⟩; subst w2)
      | (go_at_call 232; refine (HDE.out _).mono ?_; rintro e w3 ⟨v3, rfl, ho3, hz3, hb3⟩; have HB3 := h_ hb3; clear hb3 hz3; simp only [Option.getD_some] at ho3; have HS3 := h_ (Sl.of_own ho3); clear ho3)
      | (go_at_call 233; refine (HLA.out _ _ HS3.out).mono ?_; rintro e w4 ⟨rfl, hb4⟩; have HB4 := h_ (HB3.out.trans (hb4.mono HB3.out.size)); clear hb4)
      | fail)
     go_ret2
     first
      | exact RetO.some HO.out HS.out HB4.out
      | (rw [HS.out]; exact RetO.none b HO.out HB4.out)
end Go.Proofs.YtpckaimpjccjhaaGreatDoor
