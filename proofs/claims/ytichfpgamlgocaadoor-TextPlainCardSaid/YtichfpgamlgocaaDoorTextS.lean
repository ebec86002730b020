/- The small case that each statement of layer 2 begins with. -/
import Derived.Test.YtichfpgamlgocaaDoorUtfC
namespace Go.Proofs.YtichfpgamlgocaaDoor
open Go.RowKit Lib

/-- a new row of bytes that the call writes out -/
theorem new_bytes (w : World) (xs : List Int) (l : Bytes) (h : xs.map (Value.int .u8) = Lib.byteCells l) (hl : l.length ≤ 1000000) (n : Nat) (hn : n = l.length) :
    Sl (w.alloc (.cells (xs.map (Value.int .u8)).toArray 5)).heap.size (w.alloc (.cells (xs.map (Value.int .u8)).toArray 5)) (.slice (some ⟨w.heap.size, 0, none⟩) n n) (Lib.byteCells l) := by
  subst hn
  refine ⟨l.length, by rw [Lib.byteCells_length]; exact Nat.le_refl _, by unfold maxLen; omega, .inr ⟨w.heap.size, 0, by simp, by rw [Lib.byteCells_length], fun j hj => ?_⟩⟩
  rw [Nat.zero_add, World.cell?_alloc_mark, h]
  simp [List.getElem?_eq_getElem hj]
theorem new_ints (w : World) (xs : List Int) (hl : xs.length ≤ 1000000) (n : Nat) (hn : n = xs.length) :
    Sl (w.alloc (.cells (I64s xs).toArray 3)).heap.size (w.alloc (.cells (I64s xs).toArray 3)) (.slice (some ⟨w.heap.size, 0, none⟩) n n) (I64s xs) := by
  subst hn
  refine ⟨xs.length, by simp, by unfold maxLen; omega, .inr ⟨w.heap.size, 0, by simp, by simp, fun j hj => ?_⟩⟩
  rw [Nat.zero_add, World.cell?_alloc_mark]
  simp

theorem S_lit {l : Bytes} {a : Array UInt8} (h : l.toArray = a) : S l = .string ⟨a⟩ := by subst h; rfl

theorem sm_sign (c : Int) (a : Array UInt8) (h : (enc c).toArray = a) (w : World) : Calls Tryd.prog 18 #[.int .i64 c] w fun e w' => e = .returned (.string ⟨a⟩) ∧ w = w' :=
  (sign_any c w).mono fun e w' h' => ⟨by rw [h'.1, S_lit h], h'.2⟩
theorem sm_dec (xs : List Int) (l : Bytes) (h : xs.map (Value.int .u8) = Lib.byteCells l) (hl : l.length ≤ 1000) (n : Nat) (hn : n = l.length) (a : Array UInt8) (ha : (decT l).toArray = a) (w : World) (hT : Tabs w) :
    Calls Tryd.prog 11 #[.slice (some ⟨w.heap.size, 0, none⟩) n n] (w.alloc (.cells (xs.map (Value.int .u8)).toArray 5)) fun e w' => e = .returned (.string ⟨a⟩) ∧ Below w.heap.size w w' :=
  (decode_any l _ _ (new_bytes w xs l h (by omega) n hn) (by omega) (hT.below ((Below.refl _ _).alloc (Nat.le_refl _) _))).mono fun e w' h' =>
    ⟨by rw [h'.1, S_lit ha], ((Below.refl _ _).alloc (Nat.le_refl _) _).trans (h'.2.mono (by simp))⟩
theorem sm_right (s : ByteArray) (hs : s.size ≤ 1000) (r : Bool) (h : decide (rdec (ls s) = ls s) = r) (w : World) (hT : Tabs w) :
    Calls Tryd.prog 14 #[.string s] w fun e w' => e = .returned (.bool r) ∧ Below w.heap.size w w' :=
  (right_any s w (by omega) hT).mono fun e w' h' => ⟨by rw [h'.1, validD_eq, h], h'.2⟩

theorem sc1 : (enc 8364).toArray = #[226, 130, 172] := by decide
theorem sc2 : (enc 55296).toArray = #[239, 191, 189] := by decide
theorem sc3 : (enc (-1)).toArray = #[239, 191, 189] := by decide
theorem sc4 : (decT [226, 130, 65]).toArray = #[239, 191, 189, 65] := by rw [decT_eq]; decide
theorem sc5 : (decT [192, 128]).toArray = #[239, 191, 189, 239, 191, 189] := by rw [decT_eq]; decide
theorem sc6 : (decT [240, 159, 152, 128]).toArray = #[240, 159, 152, 128] := by rw [decT_eq]; decide
theorem sc7 : decide (rdec (ls ⟨#[195, 164]⟩) = ls ⟨#[195, 164]⟩) = true := by decide
theorem sc8 : decide (rdec (ls ⟨#[237, 160, 128]⟩) = ls ⟨#[237, 160, 128]⟩) = false := by decide
theorem sc9 : runes (decT (ls ⟨#[97, 195, 164, 255]⟩)) = [97, 228, 65533] := by rw [runes_decT]; decide

set_option maxHeartbeats 1000000 in
theorem small_any (w : World) (hT : Tabs w) : Calls Tryd.prog 10 #[] w fun e w' => e = .returned (.bool true) ∧ Below w.heap.size w w' := by
  have HT := Lib.hid hT; clear hT
  go_enter Tryd.func10, Tryd.ntmps10
  go_wp2_with fail
  refine (sm_sign 8364 _ sc1 _).mono ?_; rintro e w' ⟨rfl, rfl⟩
  go_wp2_with fail
  refine (sm_sign 55296 _ sc2 _).mono ?_; rintro e w' ⟨rfl, rfl⟩
  go_wp2_with fail
  refine (sm_sign (-1) _ sc3 _).mono ?_; rintro e w' ⟨rfl, rfl⟩
  go_wp2_with fail
  refine (sm_dec [226, 130, 65] [226, 130, 65] rfl (by simp) 3 rfl _ sc4 _ HT.out).mono ?_; rintro e w1 ⟨rfl, hb1⟩; have HB1 := Lib.hid hb1; clear hb1
  go_wp2_with fail
  refine (sm_dec [192, 128] [192, 128] rfl (by simp) 2 rfl _ sc5 _ (HT.out.below HB1.out)).mono ?_; rintro e w2 ⟨rfl, hb2⟩; have HB2 := Lib.hid (HB1.out.trans (hb2.mono HB1.out.size)); clear hb2
  go_wp2_with fail
  refine (sm_dec [240, 159, 152, 128] [240, 159, 152, 128] rfl (by simp) 4 rfl _ sc6 _ (HT.out.below HB2.out)).mono ?_; rintro e w3 ⟨rfl, hb3⟩; have HB3 := Lib.hid (HB2.out.trans (hb3.mono HB2.out.size)); clear hb3
  go_wp2_with fail
  refine (sm_right _ (by decide) _ sc7 _ (HT.out.below HB3.out)).mono ?_; rintro e w4 ⟨rfl, hb4⟩; have HB4 := Lib.hid (HB3.out.trans (hb4.mono HB3.out.size)); clear hb4
  go_wp2_with fail
  refine (sm_right _ (by decide) _ sc8 _ (HT.out.below HB4.out)).mono ?_; rintro e w5 ⟨rfl, hb5⟩; have HB5 := Lib.hid (HB4.out.trans (hb5.mono HB4.out.size)); clear hb5
  go_wp2_with fail
  refine (signsT_any _ _ (by decide) (HT.out.below HB5.out)).mono ?_
  rintro e w6 ⟨v, rfl, ho, hb6⟩
  rw [sc9] at ho
  have HO := Lib.hid ho; clear ho
  have HB6 := Lib.hid (HB5.out.trans (hb6.mono HB5.out.size)); clear hb6
  go_wp2_with fail
  refine (ints_any [97, 228, 65533] [97, 228, 65533] _ _ _ _ _ ((Sl.of_own (HO.out.alloc _))) (new_ints w6 [97, 228, 65533] (by simp) 3 rfl)).mono ?_
  rintro e w7 ⟨rfl, hb7⟩
  have HB7 := Lib.hid ((HB6.out.alloc (by have := HB6.out.size; omega) _).trans (hb7.mono (by have := HB6.out.size; simp; omega))); clear hb7
  go_wp2
  go_ret
  exact ⟨ret1_bool (by simp), HB7.out⟩
end Go.Proofs.YtichfpgamlgocaaDoor
