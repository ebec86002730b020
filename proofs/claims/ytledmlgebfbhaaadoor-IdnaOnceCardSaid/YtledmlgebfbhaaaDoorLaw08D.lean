/- The walk of IdnaOnce. -/
import Derived.Test.YtledmlgebfbhaaaDoorLaw08B
namespace Go.Proofs.YtledmlgebfbhaaaDoor
open Go.RowKit
set_option maxRecDepth 10000

theorem encR_len2 (l : List Int) : (encR l).1.length ≤ 1 + 8 * l.length := by
  unfold encR
  split
  · simp
  · next h =>
    have h1 : l.all sg = true := by
      by_cases h2 : l.all sg = true
      · exact h2
      · exact absurd (.inr h2) h
    obtain ⟨W, e, _, hw, _⟩ := encF_parts (List.all_eq_true.mp h1) (by omega)
    have hb := bas_le l
    have hh : (hyp (bas l)).length ≤ 1 := by unfold hyp; split <;> simp
    simp only
    rw [e, List.length_append, List.length_append]
    omega
theorem out_len2 (p : Bytes) : (outP p).length ≤ 5 + 8 * p.length := by
  have h2 := encR_len2 (signs p)
  have h3 := signs_len _ p (Nat.le_refl _)
  unfold outP wrF
  split
  · split
    · split
      · split
        · rw [Option.getD_some]; omega
        · simp
      · simp
    · simp
  · split
    · rw [Option.getD_some]; omega
    · split
      · split
        · rw [Option.getD_some, List.length_append]
          have : pre4.length = 4 := rfl
          omega
        · simp
      · simp
theorem joinD_length (x : Bytes) (r : List Bytes) : (joinD (x :: r)).length = Lib.lens (x :: r) + r.length := by
  unfold joinD
  have e1 : ([46] : List UInt8).length = 1 := rfl
  have e : Lib.lens (x :: r) = x.length + Lib.lens r := by simp [Lib.lens]
  rw [Lib.join_cons, List.length_append, Lib.joinTail_length, e1, e]
  omega
theorem lens_out : ∀ ps : List Bytes, Lib.lens (ps.map outP) ≤ 5 * ps.length + 8 * Lib.lens ps
  | [] => by simp [Lib.lens]
  | p :: ps => by
    have ih := lens_out ps
    have hp := out_len2 p
    have e1 : Lib.lens ((p :: ps).map outP) = (outP p).length + Lib.lens (ps.map outP) := by simp [Lib.lens]
    have e2 : Lib.lens (p :: ps) = p.length + Lib.lens ps := by simp [Lib.lens]
    rw [e1, e2, List.length_cons]
    omega
theorem dom_len2 {b t : Bytes} (h : domF b = some t) : t.length ≤ 8 * (toldF (signs b)).length + 8 := by
  rw [dom_signs] at h
  unfold domS at h
  split at h
  · split at h
    · have ht := Option.some.inj h
      obtain ⟨p, ps, hp⟩ := cutD_ne (toldF (signs b))
      have hj := join_cut (toldF (signs b))
      have hl := lens_out (p :: ps)
      have hl2 := congrArg List.length hj
      rw [hp, joinD_length] at hl2
      rw [← ht, hp, List.map_cons, joinD_length, List.length_map]
      rw [List.map_cons, List.length_cons] at hl
      omega
    · cases h
  · cases h
set_option maxHeartbeats 4000000 in
theorem idnaOnce_walk (s : ByteArray) (w : World) (_ : s.size ≤ maxLen) (hE : Env w) :
    Calls Tryd.prog 5 #[.string s] w fun e w' => e = .returned (.bool true) ∧ Below w.heap.size w w' := by
  have HSM := Lib.hid (small8_any w hE)
  by_cases hbig : 500 < s.size
  · go_enter Tryd.func5, Tryd.ntmps5
    go_wp2_with fail
    refine (HSM.out).mono ?_
    rintro e w1 ⟨rfl, hb1⟩
    have HB1 := Lib.hid hb1; clear hb1
    go_wp2_with fail
    go_ret
    exact ⟨rfl, HB1.out⟩
  · obtain ⟨b, hb⟩ : ∃ b, b = ls s := ⟨_, rfl⟩
    have hbl : b.length ≤ 500 := by rw [hb, ls_length]; omega
    have hss : s = bs b := by rw [hb, bs_ls]
    clear hb
    cases hd : domF b with
    | none =>
      have hdm := fun W h => dom_is b [] false w W (by omega) hE h (by rw [hd]; rfl) (by rw [hd]; rfl)
      rw [← hss] at hdm
      clear hd hss hbl hE
      have HD := Lib.hid hdm; clear hdm
      have hem : (bs []).toList.isEmpty = true := by rw [toList_bs]; rfl
      go_enter Tryd.func5, Tryd.ntmps5
      go_wp2_with fail
      refine (HSM.out).mono ?_
      rintro e w1 ⟨rfl, hb1⟩
      have HB1 := Lib.hid hb1; clear hb1
      go_wp2_with fail
      refine (HD.out _ HB1.out).mono ?_
      rintro e w2 ⟨rfl, hb2⟩
      have HB2 := Lib.hid (HB1.out.trans (hb2.mono HB1.out.size)); clear hb2
      go_wp2_with fail
      go_ret
      exact ⟨ret1_bool (by simp), HB2.out⟩
    | some t =>
      obtain ⟨h1, h2⟩ := dom_once hd
      have hl := dom_len2 hd
      have ht1 := told_len (signs b)
      have ht2 := signs_len _ b (Nat.le_refl _)
      have htl : t.length ≤ 100000 := by omega
      have hdm : ∀ W, Below w.heap.size w W → Calls Tryd.prog 13 #[.string (bs b)] W fun e w' => e = .returned (.tuple #[.string (bs t), .bool true]) ∧ Below W.heap.size W w' := fun W h => dom_is b t true w W (by omega) hE h (by rw [hd]; rfl) (by rw [hd]; rfl)
      rw [← hss] at hdm
      have hj := all_low_join (fun y hy => (h1 y hy).1)
      have hmap : ∀ c ∈ t.map b2, mapF c = (enc c, 1) ∧ Utf8.valid c = true := by
        intro c hc
        obtain ⟨y, hy, rfl⟩ := List.mem_map.mp hc
        have h3 := h1 y hy
        have h0 := b2_lt y
        exact ⟨map_low h0.1 h3.1 h3.2, (valid_iff _).mpr (by omega)⟩
      have hsg : signs t = t.map b2 := by
        conv => lhs; rw [hj]
        exact signs_join' (fun c hc => (hmap c hc).2)
      have htold : toldF (signs t) = t := by
        rw [hsg, (told_same (m := t.map b2) (fun c hc => (hmap c hc).1)).1, ← hj]
      have hdt : ∀ W, Below w.heap.size w W → Calls Tryd.prog 13 #[.string (bs t)] W fun e w' => e = .returned (.tuple #[.string (bs t), .bool true]) ∧ Below W.heap.size W w' := by
        intro W h
        have := domain_any t W (by omega) (by rw [htold]; exact htl) (hE.below h)
        rw [h2] at this
        exact this
      clear hd hss hbl hE hl ht1 ht2 hj hmap hsg htold h2
      have HD := Lib.hid hdm; clear hdm
      have HT := Lib.hid hdt; clear hdt
      obtain ⟨u, hu⟩ : ∃ u, u = bs t := ⟨_, rfl⟩
      have huz : u.size = t.length := by rw [hu, bs_size]
      rw [← hu] at HD HT
      have hby : ∀ k (hk : k < u.size), ((u[k]'hk).toNat : Int) < 0x80 ∧ ¬ (65 ≤ ((u[k]'hk).toNat : Int) ∧ ((u[k]'hk).toNat : Int) ≤ 90) := by
        intro k hk
        rw [str_at hu hk (by omega)]
        exact h1 _ (List.getElem_mem _)
      clear h1 hu
      obtain ⟨Z, hZ⟩ : ∃ Z, Z = u.size := ⟨_, rfl⟩
      have huZ : u.size = Z := hZ.symm
      have hZm : Z ≤ 100000 := by omega
      clear huz hZ htl
      have HBY := Lib.hid hby; clear hby
      have hbe : (u.toList == u.toList) = true := by simp
      go_enter Tryd.func5, Tryd.ntmps5
      go_wp2_with fail
      refine (HSM.out).mono ?_
      rintro e w1 ⟨rfl, hb1⟩
      have HB1 := Lib.hid hb1; clear hb1
      go_wp2_with fail
      refine (HD.out _ HB1.out).mono ?_
      rintro e w2 ⟨rfl, hb2⟩
      have HB2 := Lib.hid (HB1.out.trans (hb2.mono HB1.out.size)); clear hb2
      go_wp2_with fail
      go_loopw [6] (fun iv wr => ∃ k : Nat, k ≤ Z ∧ iv = .int .i64 k ∧ w2 = wr) (fun i _ => Z - (intOf i).toNat)
      case atStart => exact ⟨0, by omega, by simp, rfl⟩
      case round =>
        obtain ⟨k, hk, rfl, rfl⟩ := hrel
        by_cases hlt : k < Z
        · have hku : k < u.size := by omega
          obtain ⟨hx1, hx2⟩ := HBY.out k hku
          have hcs : ((u[k]'hku).toNat : Int) < 65 ∨ (65 ≤ ((u[k]'hku).toNat : Int) ∧ 90 < ((u[k]'hku).toNat : Int)) := by omega
          clear hx2
          rcases hcs with hc | ⟨hc, hc2⟩
          all_goals
            go_wp2_with fail
            go_roundw
            case rel => exact ⟨k + 1, by omega, by simp, trivial⟩
            case measure => simp [intOf]; omega
        · obtain rfl : k = Z := by omega
          go_wp2_with fail
          refine (HT.out _ HB2.out).mono ?_
          rintro e w3 ⟨rfl, hb3⟩
          have HB3 := Lib.hid (HB2.out.trans (hb3.mono HB2.out.size)); clear hb3
          go_wp2_with fail
          go_ret
          exact ⟨ret1_bool (by simp), HB3.out⟩
end Go.Proofs.YtledmlgebfbhaaaDoor
