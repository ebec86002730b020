/- The small case that each statement of layer 8 begins with. -/
import Derived.Test.YtledmlgebfbhaaaDoorIdnJ
namespace Go.Proofs.YtledmlgebfbhaaaDoor
open Go.RowKit
set_option maxRecDepth 10000

theorem k1 : mapF 65 = ([97], 2) := by decide +kernel
theorem k2 : mapF 304 = ([105, 204, 135], 2) := by decide +kernel
theorem k3 : mapF 173 = ([], 3) := by decide +kernel
theorem k4 : (mapF 55296).2 = 0 := by decide +kernel
theorem k5 : domF (ls ⟨#[66, 195, 156, 67, 72, 69, 82, 46, 69, 120, 97, 109, 112, 108, 101, 227, 128, 130]⟩) = some [120, 110, 45, 45, 98, 99, 104, 101, 114, 45, 107, 118, 97, 46, 101, 120, 97, 109, 112, 108, 101, 46] := by decide +kernel
theorem k6 : domF (ls ⟨#[120, 110, 45, 45, 97]⟩) = none := by decide +kernel
theorem k7 : domF (ls ⟨#[204, 129, 97]⟩) = none := by decide +kernel
theorem k8 : domF (ls ⟨#[239, 188, 161, 226, 132, 128, 194, 173, 240, 157, 159, 153]⟩) = some [97, 97, 47, 99, 49] := by decide +kernel
theorem k9 : domF (ls ⟨#[120, 110, 45, 45, 195, 169]⟩) = none := by decide +kernel
theorem l1 : labF [252, 97] = true := by decide +kernel
theorem l2 : labF [97] = false := by decide +kernel
theorem l3 : labF [252, 65] = false := by decide +kernel
theorem sm_map (c : Int) (o : Bytes) (k : Int) (h : mapF c = (o, k)) (a : Array UInt8) (ha : o.toArray = a) (w : World) :
    Calls Tryd.prog 11 #[.int .i64 c] w fun e w' => e = .returned (.tuple #[.string ⟨a⟩, .int .i64 k]) ∧ Below w.heap.size w w' :=
  (map_any c w).mono fun e w' h' => ⟨by rw [h'.1, h]; subst ha; rfl, h'.2⟩
theorem sm_mapk (c k : Int) (h : (mapF c).2 = k) (w : World) :
    Calls Tryd.prog 11 #[.int .i64 c] w fun e w' => (∃ o, e = .returned (.tuple #[S o, .int .i64 k])) ∧ Below w.heap.size w w' :=
  (map_any c w).mono fun e w' h' => ⟨⟨(mapF c).1, by rw [h'.1, h]⟩, h'.2⟩
theorem dom_at (b : Bytes) (w : World) (hb : b.length ≤ 8000) (hE : Env w) : Calls Tryd.prog 13 #[.string (bs b)] w fun e w' => RetE w (domF b) e w' := by
  have h1 := told_len (signs b)
  have h2 := signs_len _ b (Nat.le_refl _)
  exact domain_any b w (by omega) (by omega) hE
theorem sm_domT (s : ByteArray) (hs : s.size ≤ 8000) (o : Bytes) (h : domF (ls s) = some o) (a : Array UInt8) (ha : o.toArray = a) (w : World) (hE : Env w) :
    Calls Tryd.prog 13 #[.string s] w fun e w' => e = .returned (.tuple #[.string ⟨a⟩, .bool true]) ∧ Below w.heap.size w w' := by
  have hd := dom_at (ls s) w (by rw [ls_length]; exact hs) hE
  rw [bs_ls, h] at hd
  refine hd.mono fun e w' h' => ?_
  subst ha
  exact h'
theorem sm_domF (s : ByteArray) (hs : s.size ≤ 8000) (h : domF (ls s) = none) (w : World) (hE : Env w) :
    Calls Tryd.prog 13 #[.string s] w fun e w' => (∃ o, e = .returned (.tuple #[S o, .bool false])) ∧ Below w.heap.size w w' := by
  have hd := dom_at (ls s) w (by rw [ls_length]; exact hs) hE
  rw [bs_ls, h] at hd
  exact hd.mono fun e w' h' => ⟨⟨_, h'.1⟩, h'.2⟩
theorem sm_lab (l : List Int) (m : Bool) (h : labF l = m) (n : Nat) (hn : n = l.length) (hl : l.length ≤ 1000) (a : Array Value) (ha : (I64s l).toArray = a) (w : World) :
    Calls Tryd.prog 15 #[.slice (some ⟨w.heap.size, 0, none⟩) n n] (w.alloc (.cells a 3)) fun e w' => e = .returned (.bool m) ∧ Below w.heap.size w w' := by
  subst ha
  have hs := sl_lay w 3 (I64s l) (I64s l) n (by rw [List.length_map]; exact hn) (by rw [List.length_map]; omega) rfl
  exact (label_any l _ _ hs).mono fun e w' h' => ⟨by rw [h'.1, h], ((Below.refl _ _).alloc (Nat.le_refl _) _).trans (h'.2.mono (by simp))⟩

set_option maxHeartbeats 4000000 in
theorem small8_any (w : World) (hE : Env w) : Calls Tryd.prog 10 #[] w fun e w' => e = .returned (.bool true) ∧ Below w.heap.size w w' := by
  have HE := Lib.hid hE; clear hE
  go_enter Tryd.func10, Tryd.ntmps10
  go_wp2_with fail
  refine (sm_map 65 _ _ k1 _ rfl _).mono ?_; rintro e w1 ⟨rfl, hb1⟩; have HB1 := Lib.hid hb1; clear hb1
  go_wp2_with fail
  refine (sm_map 304 _ _ k2 _ rfl _).mono ?_; rintro e w2 ⟨rfl, hb2⟩; have HB2 := Lib.hid (HB1.out.trans (hb2.mono HB1.out.size)); clear hb2
  go_wp2_with fail
  refine (sm_map 173 _ _ k3 _ rfl _).mono ?_; rintro e w3 ⟨rfl, hb3⟩; have HB3 := Lib.hid (HB2.out.trans (hb3.mono HB2.out.size)); clear hb3
  go_wp2_with fail
  refine (sm_mapk 55296 0 k4 _).mono ?_; rintro e w4 ⟨⟨o4, rfl⟩, hb4⟩; have HB4 := Lib.hid (HB3.out.trans (hb4.mono HB3.out.size)); clear hb4
  go_wp2_with fail
  refine (sm_domT _ (by decide) _ k5 _ rfl _ (HE.out.below HB4.out)).mono ?_; rintro e w5 ⟨rfl, hb5⟩; have HB5 := Lib.hid (HB4.out.trans (hb5.mono HB4.out.size)); clear hb5
  go_wp2_with fail
  refine (sm_domF _ (by decide) k6 _ (HE.out.below HB5.out)).mono ?_; rintro e w6 ⟨⟨o6, rfl⟩, hb6⟩; have HB6 := Lib.hid (HB5.out.trans (hb6.mono HB5.out.size)); clear hb6
  go_wp2_with fail
  refine (sm_domF _ (by decide) k7 _ (HE.out.below HB6.out)).mono ?_; rintro e w7 ⟨⟨o7, rfl⟩, hb7⟩; have HB7 := Lib.hid (HB6.out.trans (hb7.mono HB6.out.size)); clear hb7
  go_wp2_with fail
  refine (sm_domT _ (by decide) _ k8 _ rfl _ (HE.out.below HB7.out)).mono ?_; rintro e w8 ⟨rfl, hb8⟩; have HB8 := Lib.hid (HB7.out.trans (hb8.mono HB7.out.size)); clear hb8
  go_wp2_with fail
  refine (sm_domF _ (by decide) k9 _ (HE.out.below HB8.out)).mono ?_; rintro e w9 ⟨⟨o9, rfl⟩, hb9⟩; have HB9 := Lib.hid (HB8.out.trans (hb9.mono HB8.out.size)); clear hb9
  go_wp2_with fail
  refine (sm_lab [252, 97] _ l1 2 rfl (by simp) _ rfl _).mono ?_; rintro e w10 ⟨rfl, hb10⟩; have HB10 := Lib.hid (HB9.out.trans (hb10.mono HB9.out.size)); clear hb10
  go_wp2_with fail
  refine (sm_lab [97] _ l2 1 rfl (by simp) _ rfl _).mono ?_; rintro e w11 ⟨rfl, hb11⟩; have HB11 := Lib.hid (HB10.out.trans (hb11.mono HB10.out.size)); clear hb11
  go_wp2_with fail
  refine (sm_lab [252, 65] _ l3 2 rfl (by simp) _ rfl _).mono ?_; rintro e w12 ⟨rfl, hb12⟩; have HB12 := Lib.hid (HB11.out.trans (hb12.mono HB11.out.size)); clear hb12
  go_wp2_with fail
  go_ret
  exact ⟨ret1_bool (by simp), HB12.out⟩
end Go.Proofs.YtledmlgebfbhaaaDoor
