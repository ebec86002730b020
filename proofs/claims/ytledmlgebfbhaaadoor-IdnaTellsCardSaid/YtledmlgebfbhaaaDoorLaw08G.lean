/- The walk of IdnaTells. -/
import Derived.Test.YtledmlgebfbhaaaDoorLaw08B
import Derived.Test.YtledmlgebfbhaaaDoorIdnP
namespace Go.Proofs.YtledmlgebfbhaaaDoor
open Go.RowKit
set_option maxRecDepth 10000

set_option maxHeartbeats 4000000 in
theorem idnaTells_walk (c : Int) (v : Value) (l : List Int) (s : ByteArray) (w : World) (_ : (Lit.int .i64 c).wf = true) (h : Sl w.heap.size w v (I64s l)) (_ : ∀ n ∈ l, (Lit.int .i64 n).wf = true) (_ : s.size ≤ maxLen) (hE : Env w) :
    Calls Tryd.prog 3 #[.int .i64 c, v, .string s] w fun e w' => e = .returned (.bool true) ∧ Below w.heap.size w w' := by
  have HSM := Lib.hid (small8_any w hE)
  obtain ⟨av, cv, rfl⟩ := slice_val h
  rw [show (I64s l).length = l.length by simp] at h ⊢
  have hl1 := fun (W : World) (hb : Below w.heap.size w W) => label_any l (.slice av l.length cv) W ((h.below hb).more hb.size)
  have hl2 := fun (W : World) (hb : Below w.heap.size w W) => rlabel_any l (.slice av l.length cv) W ((h.below hb).more hb.size)
  have hm1 := fun W => map_any c W
  have hm2 := fun W => rmap_any c W
  obtain ⟨A, hA⟩ : ∃ A, A = (mapF c).1 := ⟨_, rfl⟩
  obtain ⟨K, hK⟩ : ∃ K, K = (mapF c).2 := ⟨_, rfl⟩
  rw [← hA, ← hK] at hm1 hm2
  clear hA hK
  obtain ⟨m, hm⟩ : ∃ m, m = labF l := ⟨_, rfl⟩
  rw [← hm] at hl1 hl2
  clear hm h
  obtain ⟨L, hL⟩ : ∃ L, L = l.length := ⟨_, rfl⟩
  rw [← hL] at hl1 hl2
  rw [← hL]
  clear hL
  have hcs : 300 < L ∨ (L ≤ 300 ∧ 500 < s.size) ∨ (L ≤ 300 ∧ s.size ≤ 500) := by omega
  have HL1 := Lib.hid hl1; clear hl1
  have HL2 := Lib.hid hl2; clear hl2
  have HM1 := Lib.hid hm1; clear hm1
  have HM2 := Lib.hid hm2; clear hm2
  rcases hcs with hc | ⟨hc, hc2⟩ | ⟨hc, hc2⟩
  case inr.inr =>
    have hd1 := fun W hb => dom_is (ls s) _ _ w W (by rw [ls_length]; omega) hE hb rfl rfl
    have hd2 := fun W => rdomain_any (ls s) W (by rw [ls_length]; omega)
    rw [bs_ls] at hd1 hd2
    obtain ⟨O, hO⟩ : ∃ O, O = (domF (ls s)).getD [] := ⟨_, rfl⟩
    obtain ⟨z, hz⟩ : ∃ z, z = (domF (ls s)).isSome := ⟨_, rfl⟩
    have hd3 : ∀ W, Calls Tryd.prog 14 #[.string s] W fun e w' => e = .returned (.tuple #[S O, .bool z]) ∧ Below W.heap.size W w' := by rw [hO, hz]; exact hd2
    rw [← hO, ← hz] at hd1
    clear hO hz hd2 hE
    have HD1 := Lib.hid hd1; clear hd1
    have HD3 := Lib.hid hd3; clear hd3
    have b1 : ((bs A).toList == (bs A).toList) = true := by simp
    have b2' : ((bs O).toList == (bs O).toList) = true := by simp
    have b3 : (K == K) = true := by simp
    go_enter Tryd.func3, Tryd.ntmps3
    go_wp2_with fail
    refine (HSM.out).mono ?_
    rintro e w1 ⟨rfl, hb1⟩
    have HB1 := Lib.hid hb1; clear hb1
    go_wp2_with fail
    refine (HM1.out _).mono ?_
    rintro e w2 ⟨rfl, hb2⟩
    have HB2 := Lib.hid (HB1.out.trans (hb2.mono HB1.out.size)); clear hb2
    go_wp2_with fail
    refine (HM2.out _).mono ?_
    rintro e w3 ⟨rfl, hb3⟩
    have HB3 := Lib.hid (HB2.out.trans (hb3.mono HB2.out.size)); clear hb3
    go_wp2_with fail
    refine (HD1.out _ HB3.out).mono ?_
    rintro e w4 ⟨rfl, hb4⟩
    have HB4 := Lib.hid (HB3.out.trans (hb4.mono HB3.out.size)); clear hb4
    go_wp2_with fail
    refine (HD3.out _).mono ?_
    rintro e w5 ⟨rfl, hb5⟩
    have HB5 := Lib.hid (HB4.out.trans (hb5.mono HB4.out.size)); clear hb5
    go_wp2_with fail
    refine (HL1.out _ HB5.out).mono ?_
    rintro e w6 ⟨rfl, hb6⟩
    have HB6 := Lib.hid (HB5.out.trans (hb6.mono HB5.out.size)); clear hb6
    go_wp2_with fail
    refine (HL2.out _ HB6.out).mono ?_
    rintro e w7 ⟨rfl, hb7⟩
    have HB7 := Lib.hid (HB6.out.trans (hb7.mono HB6.out.size)); clear hb7
    go_wp2_with fail
    go_ret
    exact ⟨ret1_bool (by simp), HB7.out⟩
  all_goals
    clear hE
    go_enter Tryd.func3, Tryd.ntmps3
    go_wp2_with fail
    refine (HSM.out).mono ?_
    rintro e w1 ⟨rfl, hb1⟩
    have HB1 := Lib.hid hb1; clear hb1
    go_wp2_with fail
    go_ret
    exact ⟨rfl, HB1.out⟩
end Go.Proofs.YtledmlgebfbhaaaDoor
