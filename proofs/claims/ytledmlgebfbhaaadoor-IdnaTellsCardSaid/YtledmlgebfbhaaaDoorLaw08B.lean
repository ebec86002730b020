/- The walk of IdnaLabels. -/
import Derived.Test.YtledmlgebfbhaaaDoorIdnK
import Derived.Test.YtledmlgebfbhaaaDoorIdnO
namespace Go.Proofs.YtledmlgebfbhaaaDoor
open Go.RowKit
set_option maxRecDepth 10000

/-- Domain, of a text whose name is known -/
theorem dom_is (b : Bytes) (o : Bytes) (m : Bool) (w W : World) (hb : b.length ≤ 8000) (hE : Env w) (h : Below w.heap.size w W) (ho : (domF b).getD [] = o) (hm : (domF b).isSome = m) :
    Calls Tryd.prog 13 #[.string (bs b)] W fun e w' => e = .returned (.tuple #[S o, .bool m]) ∧ Below W.heap.size W w' := by
  have hd := dom_at b W hb (hE.below h)
  subst ho; subst hm
  exact hd
theorem dom_len (b : Bytes) (hb : b.length ≤ 8000) : ((domF b).getD []).length ≤ 100000000000 := by
  have h1 := told_len (signs b)
  have h2 := signs_len _ b (Nat.le_refl _)
  have h3 := pieces_num (toldF (signs b))
  unfold domF
  split
  · split
    · rw [Option.getD_some]
      have hj := join_len 100000 ((pieces (toldF (signs b))).map outP) (fun q hq => by
        obtain ⟨p, hp, rfl⟩ := List.mem_map.mp hq
        have := out_len p
        have := pieces_len hp
        omega)
      rw [List.length_map] at hj
      have : (pieces (toldF (signs b))).length * (100000 + 1) ≤ 100000 * (100000 + 1) := Nat.mul_le_mul_right _ (by omega)
      omega
    · simp
  · simp
theorem size_bound (s : ByteArray) (n : Nat) (h : s.size ≤ n) : (ls s).length ≤ n := by rw [ls_length]; exact h
set_option maxHeartbeats 4000000 in
theorem idnaLabels_walk (s t : ByteArray) (w : World) (_ : s.size ≤ maxLen) (_ : t.size ≤ maxLen) (hE : Env w) :
    Calls Tryd.prog 7 #[.string s, .string t] w fun e w' => e = .returned (.bool true) ∧ Below w.heap.size w w' := by
  have HSM := Lib.hid (small8_any w hE)
  by_cases h1 : 300 < s.size ∨ 300 < t.size
  · have hcs : 300 < s.size ∨ (s.size ≤ 300 ∧ 300 < t.size) := by omega
    rcases hcs with hc | ⟨hc, hc2⟩
    all_goals
      go_enter Tryd.func7, Tryd.ntmps7
      go_wp2_with fail
      refine (HSM.out).mono ?_
      rintro e w1 ⟨rfl, hb1⟩
      have HB1 := Lib.hid hb1; clear hb1
      go_wp2_with fail
      go_ret
      exact ⟨rfl, HB1.out⟩
  · have hs : s.size ≤ 300 := by omega
    have ht : t.size ≤ 300 := by omega
    clear h1
    have hl := dom_labels (ls s) (ls t)
    have e1 : s ++ (⟨#[46]⟩ : ByteArray) ++ t = bs (ls s ++ 46 :: ls t) := by
      have h := bs_app (ls s ++ [46]) (ls t)
      have h2 := bs_app (ls s) [46]
      rw [bs_ls] at h h2
      rw [← h2] at h
      rw [show ls s ++ 46 :: ls t = ls s ++ [46] ++ ls t by simp]
      exact h
    obtain ⟨X, hX⟩ : ∃ X, X = (domF (ls s)).getD [] := ⟨_, rfl⟩
    obtain ⟨x, hx⟩ : ∃ x, x = (domF (ls s)).isSome := ⟨_, rfl⟩
    obtain ⟨Y, hY⟩ : ∃ Y, Y = (domF (ls t)).getD [] := ⟨_, rfl⟩
    obtain ⟨y, hy⟩ : ∃ y, y = (domF (ls t)).isSome := ⟨_, rfl⟩
    obtain ⟨Z, hZ⟩ : ∃ Z, Z = (domF (ls s ++ 46 :: ls t)).getD [] := ⟨_, rfl⟩
    have hz : (domF (ls s ++ 46 :: ls t)).isSome = (x && y) ∧ ((x && y) = true → Z = X ++ 46 :: Y) := by
      rw [hl] at hZ ⊢
      rw [hx, hy]
      cases h1 : domF (ls s) <;> cases h2 : domF (ls t)
      all_goals rw [h1] at hX
      all_goals rw [h2] at hY
      all_goals simp only [h1, h2] at hZ
      all_goals simp at hX hY hZ ⊢
      rw [hX, hY, hZ]
    have hdX := fun W h => dom_is (ls s) X x w W (by rw [ls_length]; omega) hE h hX.symm hx.symm
    have hdY := fun W h => dom_is (ls t) Y y w W (by rw [ls_length]; omega) hE h hY.symm hy.symm
    have hdZ := fun W h => dom_is (ls s ++ 46 :: ls t) Z (x && y) w W (by rw [List.length_append, List.length_cons, ls_length, ls_length]; omega) hE h hZ.symm hz.1
    rw [bs_ls] at hdX hdY
    rw [← e1] at hdZ
    have hzz := hz.2
    have hX0 := hX
    have hY0 := hY
    clear hz hl hX hx hY hy hZ e1 hE
    have HX := Lib.hid hdX; clear hdX
    have HY := Lib.hid hdY; clear hdY
    have hlX := dom_len (ls s) (by rw [ls_length]; omega)
    have hlY := dom_len (ls t) (by rw [ls_length]; omega)
    rw [← hX0] at hlX
    rw [← hY0] at hlY
    clear hX0 hY0
    have HZ := Lib.hid hdZ; clear hdZ
    cases x <;> cases y
    case true.true =>
      have hzx := hzz rfl
      clear hzz
      subst hzx
      have e2 : bs X ++ (⟨#[46]⟩ : ByteArray) ++ bs Y = bs (X ++ 46 :: Y) := by
        have h := bs_app (X ++ [46]) Y
        have h2 := bs_app X [46]
        rw [← h2] at h
        rw [show X ++ 46 :: Y = X ++ [46] ++ Y by simp]
        exact h
      have e3 : ((bs (X ++ 46 :: Y)).toList == (bs (X ++ 46 :: Y)).toList) = true := by simp
      go_enter Tryd.func7, Tryd.ntmps7
      go_wp2_with fail
      refine (HSM.out).mono ?_
      rintro e w1 ⟨rfl, hb1⟩
      have HB1 := Lib.hid hb1; clear hb1
      go_wp2_with fail
      refine (HX.out _ HB1.out).mono ?_
      rintro e w2 ⟨rfl, hb2⟩
      have HB2 := Lib.hid (HB1.out.trans (hb2.mono HB1.out.size)); clear hb2
      go_wp2_with fail
      refine (HY.out _ HB2.out).mono ?_
      rintro e w3 ⟨rfl, hb3⟩
      have HB3 := Lib.hid (HB2.out.trans (hb3.mono HB2.out.size)); clear hb3
      go_wp2_with fail
      refine (HZ.out _ HB3.out).mono ?_
      rintro e w4 ⟨rfl, hb4⟩
      have HB4 := Lib.hid (HB3.out.trans (hb4.mono HB3.out.size)); clear hb4
      go_wp2_with fail
      go_ret
      exact ⟨ret1_bool (by simp), HB4.out⟩
    all_goals
      clear hzz
      go_enter Tryd.func7, Tryd.ntmps7
      go_wp2_with fail
      refine (HSM.out).mono ?_
      rintro e w1 ⟨rfl, hb1⟩
      have HB1 := Lib.hid hb1; clear hb1
      go_wp2_with fail
      refine (HX.out _ HB1.out).mono ?_
      rintro e w2 ⟨rfl, hb2⟩
      have HB2 := Lib.hid (HB1.out.trans (hb2.mono HB1.out.size)); clear hb2
      go_wp2_with fail
      refine (HY.out _ HB2.out).mono ?_
      rintro e w3 ⟨rfl, hb3⟩
      have HB3 := Lib.hid (HB2.out.trans (hb3.mono HB2.out.size)); clear hb3
      go_wp2_with fail
      refine (HZ.out _ HB3.out).mono ?_
      rintro e w4 ⟨rfl, hb4⟩
      have HB4 := Lib.hid (HB3.out.trans (hb4.mono HB3.out.size)); clear hb4
      go_wp2_with fail
      go_ret
      exact ⟨ret1_bool (by simp), HB4.out⟩
end Go.Proofs.YtledmlgebfbhaaaDoor
