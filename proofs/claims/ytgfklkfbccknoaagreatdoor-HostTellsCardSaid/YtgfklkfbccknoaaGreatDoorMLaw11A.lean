/- The walk of HostTells. -/
import Derived.Test.YtgfklkfbccknoaaGreatDoorGHlwA
import Derived.Test.YtgfklkfbccknoaaGreatDoorGReg
namespace Go.Proofs.YtgfklkfbccknoaaGreatDoor
open Go.RowKit
set_option maxRecDepth 10000

theorem bad_both (c : Int) (hc : 0 ≤ c ∧ c < 256) : amF badL c = badF c := by
  have h := bad_am (UInt8.ofNat c.toNat)
  rw [b2_of hc] at h
  exact h
set_option maxHeartbeats 40000000 in
theorem hostTells_walk (s : ByteArray) (sp : Bool) (h : Hst) (c : Int) (w : World) (_ : s.size ≤ maxLen) (ok : HstOk h) (hcw : (Lit.int .u8 c).wf = true) (hE : Env w) (hN : NE w) :
    Calls Tryz.prog 3 #[.string s, .bool sp, .agg (hCells h), .int .u8 c] w fun e w' => e = .returned (.bool true) ∧ Below w.heap.size w w' := by
  have hc := bounds_u8 hcw
  have HA := Lib.hid (hstAt_of ok)
  have HOK := Lib.hid ok
  have HD1 := Lib.hid (fun W => bad_any c W)
  have HD2 := Lib.hid (show ∀ W, Calls Tryz.prog 16 #[.int .u8 c] W fun e w' => e = .returned (.bool (badF c)) ∧ w' = W from fun W => by rw [← bad_both c (by omega)]; exact rBad_am c W)
  have HSM := Lib.hid (fun (W : World) (hW : Below w.heap.size w W) => small11_any W (hE.below hW) (hN.below hW))
  have HE := Lib.hid hE
  have HN := Lib.hid hN
  generalize badF c = bd at HD1 HD2
  obtain ⟨nm, hnm⟩ : ∃ nm, nm = bs h.name := ⟨_, rfl⟩
  have hnz : nm.size = h.name.length := by rw [hnm, bs_size]
  have HNM := Lib.hid hnm
  have HNZ := Lib.hid hnz
  clear hcw hc hE hN ok hnm hnz
  go_enter Tryz.func3, Tryz.ntmps3
  go_upto_region 1 with (first
    | (refine boxed rfl _ _ rfl (hCells h) rfl ?_; intro bu w2 hb1 hb2 hb3 hb4 hb5; have HX2 := Lib.hid (show HB w2 bu h from ⟨hb3, HOK.out.l⟩); have HB2 := Lib.hid hb5; clear hb1 hb2 hb3 hb4 hb5)
    | fail)
  go_upto_region 2 with (first
    | (go_at_call 10; refine (HSM.out _ HB2.out).mono ?_; rintro e w3 ⟨rfl, hb3⟩; have HS3 := Lib.hid hb3; clear hb3)
    | fail)
  have HB3 := Lib.hid (stp HB2.out HS3.out)
  have HX3 := Lib.hid (HX2.out.keep HS3.out)
  clear HX2 HB2 HS3
  by_cases hbig : 300 < s.size
  · go_wp2_with fail
    go_ret
    exact ⟨rfl, HB3.out⟩
  have c1 := HX3.out.cell 1
  rw [show (hCells h)[1]? = some (.string nm) from by rw [HNM.out]; rfl] at c1
  by_cases hbn : 300 < nm.size
  · go_wp2_with fail
    go_ret
    exact ⟨rfl, HB3.out⟩
  have HG8 := Lib.hid (host_six (ls s) sp)
  have HP1 := Lib.hid (fun (W : World) (hW : Below w.heap.size w W) => hp_small s sp (by omega) HE.out hW)
  have HP2 := Lib.hid (fun (W : World) => rhp_small s sp (by omega) W)
  obtain ⟨G, hG⟩ : ∃ G, G = (hostP (ls s) sp).getD H0 := ⟨_, rfl⟩
  obtain ⟨q, hq⟩ : ∃ q, q = (hostP (ls s) sp).isSome := ⟨_, rfl⟩
  replace HP1 := Lib.hid (show ∀ W, Below w.heap.size w W → Calls Tryz.prog 11 #[.string s, .bool sp] W fun e w' => e = .returned (.tuple #[.agg (hCells G), .bool q]) ∧ Below W.heap.size W w' from by rw [hG, hq]; exact HP1.out)
  replace HP2 := Lib.hid (show ∀ W, Calls Tryz.prog 12 #[.string s, .bool sp] W fun e w' => e = .returned (.tuple #[.agg (hCells G), .bool q]) ∧ Below W.heap.size W w' from by rw [hG, hq]; exact HP2.out)
  replace HG8 := Lib.hid (show G.six.length = 8 from by rw [hG]; exact HG8.out)
  clear hG hq
  have hnl : h.name.length ≤ 100000 := by have := HNZ.out; omega
  obtain ⟨T, hT⟩ : ∃ T, T = bs (hostF h) := ⟨_, rfl⟩
  have HW1 := Lib.hid (show ∀ W, Below w.heap.size w W → Calls Tryz.prog 13 #[.agg (hCells h)] W fun e w' => e = .returned (.string T) ∧ Below W.heap.size W w' from fun W hW => by rw [hT]; exact hwrite_any h _ W HA.out hnl (HN.out.below hW))
  have HW2 := Lib.hid (show ∀ W, Calls Tryz.prog 14 #[.agg (hCells h)] W fun e w' => e = .returned (.string T) ∧ Below W.heap.size W w' from fun W => by rw [hT]; exact rhwrite_any h _ W HA.out hnl)
  clear hT hnl
  go_upto_region 5 with (first
    | (refine alloc_to rfl 26 rfl _ _ (allH _) ?_)
    | (go_at_call 11; refine (HP1.out _ HB3.out).mono ?_; rintro e w4 ⟨rfl, hb⟩; have HC4 := Lib.hid hb; clear hb)
    | (refine storeH rfl (.tmp 10) (.tmp 29) rfl G HG8.out rfl rfl rfl ?_; intro W4 hh hb; have HH4 := Lib.hid hh; have HS4 := Lib.hid (stp HC4.out hb); clear hh hb HC4)
    | fail)
  go_upto_region 6 with (first
    | (refine alloc_to rfl 26 rfl _ _ (allH _) ?_)
    | (go_at_call 12; refine (HP2.out _).mono ?_; rintro e w6 ⟨rfl, hb⟩; have HC5 := Lib.hid hb; clear hb)
    | (refine storeH rfl (.tmp 12) (.tmp 35) rfl G HG8.out rfl rfl rfl ?_; intro w5 hh hb; have HK2 := Lib.hid hh; have HS5 := Lib.hid (stp HC5.out hb); clear hh hb HC5)
    | fail)
  have HK1 := Lib.hid (HH4.out.keep HS5.out)
  have HKX := Lib.hid (HX3.out.keep (stp HS4.out HS5.out))
  have HB5 := Lib.hid (stp HB3.out (stp HS4.out HS5.out))
  refine wp_region_held_drew (S := fun W => Below w5.heap.size w5 W) (by kernel_rfl) (by first | exact bz_drew (bz_refl _) | assumption | exact bz_step (by assumption) (by assumption) | exact bz_drew (by assumption)) (fun hHeld => ?_)
  refine tk 0 (v := ?_) rfl (by kernel_rfl) (by kernel_rfl) (by kernel_rfl) (fun _ _ _ h => h) (by rfl) (by assumption) (fun wS hSw => ?_) ?_
  rotate_left
  · (try dsimp only at hSw); go_simp; first | done | with_reducible rfl   -- move
  try simp only [Act.put, List.setIfInBounds_toArray, List.set_cons_zero, List.set_cons_succ]
  refine tk 1 (v := ?_) rfl (by kernel_rfl) (by kernel_rfl) (by kernel_rfl) (fun _ _ _ h => h) (by rfl) (by assumption) (fun wS hSw => ?_) ?_
  rotate_left
  · (try dsimp only at hSw); go_simp; first | done | with_reducible rfl   -- move
  try simp only [Act.put, List.setIfInBounds_toArray, List.set_cons_zero, List.set_cons_succ]
  refine tk 2 (v := ?_) rfl (by kernel_rfl) (by kernel_rfl) (by kernel_rfl) (fun _ _ _ h => h) (by rfl) (by assumption) (fun wS hSw => ?_) ?_
  rotate_left
  · (try dsimp only at hSw)   -- load
    refine loadH_exec (.tmp 10) ?_ w4.heap.size G ?_ ?_
    · rfl
    · rfl
    · exact HK1.out.keep hSw
  try simp only [Act.put, List.setIfInBounds_toArray, List.set_cons_zero, List.set_cons_succ]
  refine tk 3 (v := ?_) rfl (by kernel_rfl) (by kernel_rfl) (by kernel_rfl) (fun _ _ _ h => h) (by rfl) (by assumption) (fun wS hSw => ?_) ?_
  rotate_left
  · (try dsimp only at hSw)   -- load
    refine loadH_exec (.tmp 12) ?_ w6.heap.size G ?_ ?_
    · rfl
    · rfl
    · exact HK2.out.keep hSw
  try simp only [Act.put, List.setIfInBounds_toArray, List.set_cons_zero, List.set_cons_succ]
  refine tk 4 (v := ?_) rfl (by kernel_rfl) (by kernel_rfl) (by kernel_rfl) (fun _ _ _ h => h) (by rfl) (by assumption) (fun wS hSw => ?_) ?_
  rotate_left
  · (try dsimp only at hSw)   -- binOp
    refine eqH_exec (.tmp 39) (.tmp 40) ?_ G HG8.out ?_ ?_
    · rfl
    · rfl
    · rfl
  try simp only [Act.put, List.setIfInBounds_toArray, List.set_cons_zero, List.set_cons_succ]
  refine tk 5 (v := ?_) rfl (by kernel_rfl) (by kernel_rfl) (by kernel_rfl) (fun _ _ _ h => h) (by rfl) (by assumption) (fun wS hSw => ?_) ?_
  rotate_left
  · (try dsimp only at hSw); go_simp; first | done | with_reducible rfl   -- pick
  try simp only [Act.put, List.setIfInBounds_toArray, List.set_cons_zero, List.set_cons_succ]
  refine tk 6 (v := ?_) rfl (by kernel_rfl) (by kernel_rfl) (by kernel_rfl) (fun _ _ _ h => h) (by rfl) (by assumption) (fun wS hSw => ?_) ?_
  rotate_left
  · (try dsimp only at hSw); go_simp; first | done | with_reducible rfl   -- move
  try simp only [Act.put, List.setIfInBounds_toArray, List.set_cons_zero, List.set_cons_succ]
  refine tk 7 (v := ?_) rfl (by kernel_rfl) (by kernel_rfl) (by kernel_rfl) (fun _ _ _ h => h) (by rfl) (by assumption) (fun wS hSw => ?_) ?_
  rotate_left
  · (try dsimp only at hSw); go_simp; first | done | with_reducible rfl   -- move
  try simp only [Act.put, List.setIfInBounds_toArray, List.set_cons_zero, List.set_cons_succ]
  refine tk 8 (v := ?_) rfl (by kernel_rfl) (by kernel_rfl) (by kernel_rfl) (fun _ _ _ h => h) (by rfl) (by assumption) (fun wS hSw => ?_) ?_
  rotate_left
  · (try dsimp only at hSw); go_simp; first | done | with_reducible rfl   -- move
  try simp only [Act.put, List.setIfInBounds_toArray, List.set_cons_zero, List.set_cons_succ]
  refine tk 9 (v := ?_) rfl (by kernel_rfl) (by kernel_rfl) (by kernel_rfl) (fun _ _ _ h => h) (by rfl) (by assumption) (fun wS hSw => ?_) ?_
  rotate_left
  · (try dsimp only at hSw); go_simp; first | done | with_reducible rfl   -- binOp
  try simp only [Act.put, List.setIfInBounds_toArray, List.set_cons_zero, List.set_cons_succ]
  refine tk 10 (v := ?_) rfl (by kernel_rfl) (by kernel_rfl) (by kernel_rfl) (fun _ _ _ h => h) (by rfl) (by assumption) (fun wS hSw => ?_) ?_
  rotate_left
  · (try dsimp only at hSw); go_simp; first | done | with_reducible rfl   -- pick
  try simp only [Act.put, List.setIfInBounds_toArray, List.set_cons_zero, List.set_cons_succ]
  refine tk 11 (v := ?_) rfl (by kernel_rfl) (by kernel_rfl) (by kernel_rfl) (fun _ _ _ h => h) (by rfl) (by assumption) (fun wS hSw => ?_) ?_
  rotate_left
  · (try dsimp only at hSw); go_simp; first | done | with_reducible rfl   -- move
  try simp only [Act.put, List.setIfInBounds_toArray, List.set_cons_zero, List.set_cons_succ]
  refine tk 12 (v := ?_) rfl (by kernel_rfl) (by kernel_rfl) (by kernel_rfl) (fun _ _ _ h => h) (by rfl) (by assumption) (fun wS hSw => ?_) ?_
  rotate_left
  · (try dsimp only at hSw)   -- load
    refine loadH_exec (.tmp 6) ?_ bu h ?_ ?_
    · rfl
    · rfl
    · exact HKX.out.keep hSw
  try simp only [Act.put, List.setIfInBounds_toArray, List.set_cons_zero, List.set_cons_succ]
  refine tk 14 (v := ?_) rfl (by kernel_rfl) (by kernel_rfl) (by kernel_rfl) (fun _ _ _ h => h) (by rfl) (by assumption) (fun wS hSw => ?_) ?_
  rotate_left
  · (try dsimp only at hSw)   -- load
    refine loadH_exec (.tmp 6) ?_ bu h ?_ ?_
    · rfl
    · rfl
    · exact HKX.out.keep hSw
  try simp only [Act.put, List.setIfInBounds_toArray, List.set_cons_zero, List.set_cons_succ]
  refine rn 13 (by kernel_rfl) rfl (by rfl) (fun K hK => ?_)
  go_simp   -- 13: call of tamis/host.Write
  refine (HW1.out _ HB5.out.drew).mono ?_
  rintro e x1 ⟨rfl, hb⟩
  have hB1 : Below w5.heap.size w5 x1 := (Below.refl w5.heap.size w5).drew.trans hb
  clear hb
  dsimp only
  refine hK.out _ _ ?_ (fun hHeld => ?_)
  · first | exact bz_drew (bz_refl _) | assumption | exact bz_step (by assumption) (by assumption) | exact bz_drew (by assumption)
  clear hK K
  try simp only [Act.put, List.setIfInBounds_toArray, List.set_cons_zero, List.set_cons_succ]
  refine rn 15 (by kernel_rfl) rfl (by rfl) (fun K hK => ?_)
  go_simp   -- 15: call of tamis/tamisref11.Write
  refine (HW2.out _).mono ?_
  rintro e x2 ⟨rfl, hb⟩
  have hB2 : Below w5.heap.size w5 x2 := hB1.trans (hb.mono hB1.size)
  clear hb
  dsimp only
  refine hK.out _ _ ?_ (fun hHeld => ?_)
  · first | exact bz_drew (bz_refl _) | assumption | exact bz_step (by assumption) (by assumption) | exact bz_drew (by assumption)
  clear hK K
  try simp only [Act.put, List.setIfInBounds_toArray, List.set_cons_zero, List.set_cons_succ]
  refine tk 16 (v := ?_) rfl (by kernel_rfl) (by kernel_rfl) (by kernel_rfl) (fun _ _ _ h => h) (by rfl) (by assumption) (fun wS hSw => ?_) ?_
  rotate_left
  · (try dsimp only at hSw); go_simp; first | done | with_reducible rfl   -- binOp
  try simp only [Act.put, List.setIfInBounds_toArray, List.set_cons_zero, List.set_cons_succ]
  refine tk 17 (v := ?_) rfl (by kernel_rfl) (by kernel_rfl) (by kernel_rfl) (fun _ _ _ h => h) (by rfl) (by assumption) (fun wS hSw => ?_) ?_
  rotate_left
  · (try dsimp only at hSw); go_simp; first | done | with_reducible rfl   -- pick
  try simp only [Act.put, List.setIfInBounds_toArray, List.set_cons_zero, List.set_cons_succ]
  refine tk 18 (v := ?_) rfl (by kernel_rfl) (by kernel_rfl) (by kernel_rfl) (fun _ _ _ h => h) (by rfl) (by assumption) (fun wS hSw => ?_) ?_
  rotate_left
  · (try dsimp only at hSw); go_simp; first | done | with_reducible rfl   -- move
  try simp only [Act.put, List.setIfInBounds_toArray, List.set_cons_zero, List.set_cons_succ]
  refine tk 19 (v := ?_) rfl (by kernel_rfl) (by kernel_rfl) (by kernel_rfl) (fun _ _ _ h => h) (by rfl) (by assumption) (fun wS hSw => ?_) ?_
  rotate_left
  · (try dsimp only at hSw); go_simp; first | done | with_reducible rfl   -- move
  try simp only [Act.put, List.setIfInBounds_toArray, List.set_cons_zero, List.set_cons_succ]
  refine tk 21 (v := ?_) rfl (by kernel_rfl) (by kernel_rfl) (by kernel_rfl) (fun _ _ _ h => h) (by rfl) (by assumption) (fun wS hSw => ?_) ?_
  rotate_left
  · (try dsimp only at hSw); go_simp; first | done | with_reducible rfl   -- move
  try simp only [Act.put, List.setIfInBounds_toArray, List.set_cons_zero, List.set_cons_succ]
  refine rn 20 (by kernel_rfl) rfl (by rfl) (fun K hK => ?_)
  go_simp   -- 20: call of tamis/host.Bad
  refine (HD1.out _).mono ?_
  rintro e x3 ⟨rfl, hx⟩
  subst hx
  dsimp only
  refine hK.out _ _ ?_ (fun hHeld => ?_)
  · first | exact bz_drew (bz_refl _) | assumption | exact bz_step (by assumption) (by assumption) | exact bz_drew (by assumption)
  clear hK K
  try simp only [Act.put, List.setIfInBounds_toArray, List.set_cons_zero, List.set_cons_succ]
  refine rn 22 (by kernel_rfl) rfl (by rfl) (fun K hK => ?_)
  go_simp   -- 22: call of tamis/tamisref11.Bad
  refine (HD2.out _).mono ?_
  rintro e x4 ⟨rfl, hx⟩
  subst hx
  dsimp only
  refine hK.out _ _ ?_ (fun hHeld => ?_)
  · first | exact bz_drew (bz_refl _) | assumption | exact bz_step (by assumption) (by assumption) | exact bz_drew (by assumption)
  clear hK K
  try simp only [Act.put, List.setIfInBounds_toArray, List.set_cons_zero, List.set_cons_succ]
  refine tk 23 (v := ?_) rfl (by kernel_rfl) (by kernel_rfl) (by kernel_rfl) (fun _ _ _ h => h) (by rfl) (by assumption) (fun wS hSw => ?_) ?_
  rotate_left
  · (try dsimp only at hSw); go_simp; first | done | with_reducible rfl   -- binOp
  try simp only [Act.put, List.setIfInBounds_toArray, List.set_cons_zero, List.set_cons_succ]
  refine tk 24 (v := ?_) rfl (by kernel_rfl) (by kernel_rfl) (by kernel_rfl) (fun _ _ _ h => h) (by rfl) (by assumption) (fun wS hSw => ?_) ?_
  rotate_left
  · (try dsimp only at hSw); go_simp; first | done | with_reducible rfl   -- pick
  try simp only [Act.put, List.setIfInBounds_toArray, List.set_cons_zero, List.set_cons_succ]
  refine tk 25 (v := ?_) rfl (by kernel_rfl) (by kernel_rfl) (by kernel_rfl) (fun _ _ _ h => h) (by rfl) (by assumption) (fun wS hSw => ?_) ?_
  rotate_left
  · (try dsimp only at hSw); go_simp; first | done | with_reducible rfl   -- assign
  try simp only [Act.put, List.setIfInBounds_toArray, List.set_cons_zero, List.set_cons_succ]
  refine wpAnyH_done (by kernel_rfl) ?_ _
  go_wp2_with fail
  go_ret
  exact ⟨ret1_bool (by simp), HB5.out.trans (hB2.mono HB5.out.size)⟩
end Go.Proofs.YtgfklkfbccknoaaGreatDoor
