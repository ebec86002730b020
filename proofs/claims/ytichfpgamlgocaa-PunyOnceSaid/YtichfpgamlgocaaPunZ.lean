/- The small case that each statement of layer 7 begins with. -/
import Derived.Test.YtichfpgamlgocaaPunY
import Derived.Test.YtichfpgamlgocaaPunI
namespace Go.Proofs.Ytichfpgamlgocaa
open Go.RowKit

theorem newInts (w : World) (xs : List Int) (hl : xs.length ≤ 1000000) (n : Nat) (hn : n = xs.length) :
    Sl (w.alloc (.cells (I64s xs).toArray 3)).heap.size (w.alloc (.cells (I64s xs).toArray 3)) (.slice (some ⟨w.heap.size, 0, none⟩) n n) (I64s xs) := by
  subst hn
  refine ⟨xs.length, by simp, by unfold maxLen; omega, .inr ⟨w.heap.size, 0, by simp, by simp, fun j hj => ?_⟩⟩
  rw [Nat.zero_add, World.cell?_alloc_mark]
  simp
theorem sm_enc (xs : List Int) (o : Bytes) (b : Bool) (h : encR xs = (o, b)) (hl : xs.length ≤ 1000) (n : Nat) (hn : n = xs.length) (a : Array UInt8) (ha : o.toArray = a) (w : World) :
    Calls Try.prog 9 #[.slice (some ⟨w.heap.size, 0, none⟩) n n] (w.alloc (.cells (I64s xs).toArray 3)) fun e w' => e = .returned (.tuple #[.string ⟨a⟩, .bool b]) ∧ Below w.heap.size w w' :=
  (encode_any xs _ _ (newInts w xs (by omega) n hn)).mono fun e w' h' => ⟨by rw [h'.1, h]; subst ha; rfl, ((Below.refl _ _).alloc (Nat.le_refl _) _).trans (h'.2.mono (by simp))⟩
theorem sm_decS (s : ByteArray) (hs : s.size ≤ 1000) (o : Option (List Int)) (h : decF (ls s) = o) (w : World) : Calls Try.prog 11 #[.string s] w fun e w' => RetD w o e w' := by
  have := decode_core (ls s) w (by rw [ls_length]; omega)
  rw [bs_ls, h] at this
  exact this

set_option maxHeartbeats 2000000 in
theorem small7_any (w : World) : Calls Try.prog 8 #[] w fun e w' => e = .returned (.bool true) ∧ Below w.heap.size w w' := by
  go_enter Try.func8, Try.ntmps8
  go_wp2_with fail
  refine (sm_enc [98, 252, 99, 104, 101, 114] _ _ e1 (by simp) 6 rfl _ rfl _).mono ?_; rintro e w1 ⟨rfl, hb1⟩; have HB1 := Lib.hid hb1; clear hb1
  go_wp2_with fail
  refine (sm_decS _ (by decide) _ d1 _).mono ?_; rintro e w2 ⟨v2, rfl, ho2, _, hb2⟩; have HB2 := Lib.hid (HB1.out.trans (hb2.mono HB1.out.size)); clear hb2; have HO2 := Lib.hid ho2; clear ho2
  go_wp2_with fail
  refine (sm_enc [97, 98] _ _ e2 (by simp) 2 rfl _ rfl _).mono ?_; rintro e w3 ⟨rfl, hb3⟩; have HB3 := Lib.hid (HB2.out.trans (hb3.mono HB2.out.size)); have HO3 := Lib.hid (own_below HO2.out hb3); clear hb3
  go_wp2_with fail
  refine (sm_decS _ (by decide) _ d2 _).mono ?_; rintro e w4 ⟨v4, rfl, ho4, _, hb4⟩; have HB4 := Lib.hid (HB3.out.trans (hb4.mono HB3.out.size)); have HO4 := Lib.hid (own_below HO3.out hb4); clear hb4; have HP4 := Lib.hid ho4; clear ho4
  go_wp2_with fail
  refine (sm_decS _ (by decide) _ d3 _).mono ?_; rintro e w5 ⟨v5, rfl, ho5, _, hb5⟩; have HB5 := Lib.hid (HB4.out.trans (hb5.mono HB4.out.size)); have HO5 := Lib.hid (own_below HO4.out hb5); have HP5 := Lib.hid (own_below HP4.out hb5); clear hb5 ho5
  go_wp2_with fail
  refine (sm_decS _ (by decide) _ d4 _).mono ?_; rintro e w6 ⟨v6, rfl, ho6, _, hb6⟩; have HB6 := Lib.hid (HB5.out.trans (hb6.mono HB5.out.size)); have HO6 := Lib.hid (own_below HO5.out hb6); have HP6 := Lib.hid (own_below HP5.out hb6); clear hb6 ho6
  go_wp2_with fail
  refine (sm_enc [55296] _ _ e3 (by simp) 1 rfl _ rfl _).mono ?_; rintro e w7 ⟨rfl, hb7⟩; have HB7 := Lib.hid (HB6.out.trans (hb7.mono HB6.out.size)); have HO7 := Lib.hid (own_below HO6.out hb7); have HP7 := Lib.hid (own_below HP6.out hb7); clear hb7
  go_wp2_with fail
  refine (sm_decS _ (by decide) _ d5 _).mono ?_; rintro e w8 ⟨v8, rfl, ho8, _, hb8⟩; have HB8 := Lib.hid (HB7.out.trans (hb8.mono HB7.out.size)); have HO8 := Lib.hid (own_below HO7.out hb8); have HP8 := Lib.hid (own_below HP7.out hb8); clear hb8
  obtain ⟨a8, c8, hv8⟩ := slice_val (Sl.of_own ho8)
  simp only [Option.getD_some, List.map_nil, List.length_nil] at hv8
  subst hv8
  clear ho8
  go_wp2_with fail
  refine (ints_any [98, 252, 99, 104, 101, 114] [98, 252, 99, 104, 101, 114] _ _ _ _ _ (Sl.of_own (HO8.out.alloc _)) (newInts w8 [98, 252, 99, 104, 101, 114] (by simp) 6 rfl)).mono ?_
  rintro e w9 ⟨rfl, hb9⟩
  have HB9 := Lib.hid ((HB8.out.alloc (HB8.out.size) _).trans (hb9.mono (by have := HB8.out.size; simp; omega)))
  have HP9 := Lib.hid (own_below (HP8.out.alloc _) hb9); clear hb9
  go_wp2_with fail
  refine (ints_any [0x4ed6, 0x4eec, 0x4e3a, 0x4ec0, 0x4e48, 0x4e0d, 0x8bf4, 0x4e2d, 0x6587] [0x4ed6, 0x4eec, 0x4e3a, 0x4ec0, 0x4e48, 0x4e0d, 0x8bf4, 0x4e2d, 0x6587] _ _ _ _ _ (Sl.of_own (HP9.out.alloc _)) (newInts w9 [0x4ed6, 0x4eec, 0x4e3a, 0x4ec0, 0x4e48, 0x4e0d, 0x8bf4, 0x4e2d, 0x6587] (by simp) 9 rfl)).mono ?_
  rintro e w10 ⟨rfl, hb10⟩
  have HB10 := Lib.hid ((HB9.out.alloc (HB9.out.size) _).trans (hb10.mono (by have := HB9.out.size; simp; omega))); clear hb10
  go_wp2
  go_ret
  exact ⟨ret1_bool (by simp), HB10.out⟩
end Go.Proofs.Ytichfpgamlgocaa
