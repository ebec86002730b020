/- The walk of TextParts. -/
import Derived.Test.YtichfpgamlgocaaDoorLaw02K
import Derived.Test.YtichfpgamlgocaaDoorReg
namespace Go.Proofs.YtichfpgamlgocaaDoor
open Go.RowKit
set_option linter.unusedSimpArgs false

/-- Decode, in a world behind wg -/
theorem decode_in {wg : World} (v : Value) (l r : Bytes) (W : World) (hr : decT l = r) (h : Sl wg.heap.size wg v (Lib.byteCells l)) (hb : Below wg.heap.size wg W) (hl : l.length ≤ 1000000) (hT : Tabs wg) :
    Calls Tryd.prog 11 #[v] W fun e w' => e = .returned (S r) ∧ Below W.heap.size W w' :=
  (decode_any l v W ((h.below hb).more hb.size) hl (hT.below hb)).mono fun e w' h' => ⟨by rw [h'.1, hr], h'.2⟩
theorem bs_app (l m : Bytes) : bs l ++ bs m = bs (l ++ m) := by
  apply ls_inj
  simp [ls, bs]
theorem parts_1 (l m : List Int) (b : Bytes) : decT (joinF l ++ b ++ joinF m) = joinF l ++ rdec b ++ joinF m := by rw [decT_eq, rdec_parts]

attribute [local simp] bz_refl bz_drew bz_drewN bz_alloc
set_option maxHeartbeats 2000000 in
theorem textParts_core (l m : List Int) (lb : Bytes) (al ab am : Option Addr) (cl cb cm : Nat) (w : World) (hsl : Sl w.heap.size w (.slice al l.length cl) (I64s l)) (hsb : Sl w.heap.size w (.slice ab lb.length cb) (Lib.byteCells lb))
    (hsm : Sl w.heap.size w (.slice am m.length cm) (I64s m)) (hl : l.length ≤ 50) (hm : m.length ≤ 50) (hlb : lb.length ≤ 300) (hT : Tabs w) :
    Calls Tryd.prog 7 #[.slice al l.length cl, .slice ab lb.length cb, .slice am m.length cm] w fun e w' => e = .returned (.bool true) ∧ Below w.heap.size w w' := by
  have hat := slice_at hsl
  have hatm := slice_at hsm
  clear hsl hsm
  obtain ⟨i8, hi8, hz8, hz81, hz82⟩ := info_parts u8_info
  have HT := Lib.hid hT; clear hT
  have HAT := Lib.hid hat; clear hat
  have HATM := Lib.hid hatm; clear hatm
  obtain ⟨L, hL⟩ : ∃ L, L = l.length := ⟨_, rfl⟩
  obtain ⟨M, hM⟩ : ∃ M, M = m.length := ⟨_, rfl⟩
  obtain ⟨N, hN⟩ : ∃ N, N = lb.length := ⟨_, rfl⟩
  rw [← hN] at hsb
  have hln : (joinF l).length ≤ 200 ∧ (joinF m).length ≤ 200 ∧ lb.length ≤ 300 := ⟨by have := joinF_len l; omega, by have := joinF_len m; omega, hlb⟩
  have HLN := Lib.hid hln; clear hln
  rw [← hL] at hl ⊢
  rw [← hM] at hm ⊢
  rw [← hN] at hlb ⊢
  have HSB0 := Lib.hid hsb; clear hsb
  have HL := Lib.hid hL; clear hL
  have HM := Lib.hid hM; clear hM
  clear hN
  go_enter Tryd.func7, Tryd.ntmps7
  go_wp2_with fail
  refine (small_any _ HT.out).mono ?_
  rintro e w1 ⟨rfl, hb1⟩
  have hs1 := hb1.size
  have HB1 := Lib.hid hb1; clear hb1
  go_wp2
  go_loopw [8, 9] (fun out i wr => ∃ (k : Nat), k ≤ L ∧ i = .int .i64 k ∧ wr.ownsRow w1.heap.size 5 1 out (joinF (l.take k)).length (Lib.byteCells (joinF (l.take k))) ∧
      w1.heap.size ≤ wr.heap.size ∧ Below w1.heap.size w1 wr) (fun _ i _ => L - (intOf i).toNat)
  case atStart => exact ⟨0, by omega, rfl, ⟨by simp [joinF, Lib.byteCells], .inl ⟨rfl, by simp [joinF]⟩⟩, Nat.le_refl _, Below.refl _ _⟩
  case round =>
    obtain ⟨k, hk, rfl, hown, hwz, hbel⟩ := hrel
    have HO := Lib.hid hown; clear hown
    have HB := Lib.hid hbel; clear hbel
    by_cases hlt : k < L
    · have hx : k < l.length := by have := HL.out; omega
      obtain ⟨b, o, rfl, hb, h1⟩ := HAT.out k hx
      have hcell : wr.cell? ⟨b, o + k, none⟩ = some (.int .i64 l[k]) := by
        have h2 := (HB1.out).cell (p := ⟨b, o + k, none⟩) hb
        have h3 := (HB.out).cell (p := ⟨b, o + k, none⟩) (Nat.lt_of_lt_of_le hb hs1)
        rw [h3, h2, h1]
      have hjl := joinF_len (l.take k)
      have hel := enc_len l[k]
      have hkl : (l.take k).length ≤ k := List.length_take_le _ _
      have e1 : joinF (l.take (k + 1)) = joinF (l.take k) ++ enc l[k] := by
        rw [List.take_succ_eq_append_getElem hx, joinF_append]; simp [joinF]
      obtain ⟨x, hxx⟩ : ∃ x, x = l[k] := ⟨_, rfl⟩
      rw [← hxx] at hcell hel e1
      have E1 := Lib.hid e1; clear e1
      clear hxx
      go_wp2_with (first
          | (go_at_call 18; refine (sign_any _ _).mono ?_; rintro e w2 ⟨rfl, rfl⟩)
          | (at_builtin; (refine pushS rfl (.tmp 34) (.tmp 39) _ _ rfl w1.heap.size 5 i8 Tryd.underlying22 Tryd.underlying9 hi8 hz8 hz81 hz82 _ _ _ (joinF (l.take k)) rfl HO.out (enc x) rfl (by omega) hwz ?_); intro v2 w2 hown2 hw2 hb2; have HO2 := Lib.hid hown2; clear hown2; have HB2 := Lib.hid hb2; clear hb2))
      go_roundw
      case rel =>
        refine ⟨k + 1, hlt, by simp, ?_, by omega, HB.out.trans HB2.out⟩
        rw [E1.out, List.length_append]
        exact HO2.out
      case measure => simp [intOf]; omega
    · obtain rfl : k = L := by omega
      have e1 : l.take k = l := List.take_of_length_le (by have := HL.out; omega)
      have ho := HO.out
      rw [e1] at ho
      have HOL := Lib.hid ho; clear ho
      clear HO e1
      have HBW := Lib.hid ((HB1.out).trans ((HB.out).mono hs1))
      have hsw := HBW.out.size
      clear HB
      go_wp2
      go_loopw [10, 11] (fun out i wq => ∃ (k : Nat), k ≤ M ∧ i = .int .i64 k ∧ wq.ownsRow wr.heap.size 5 1 out (joinF (m.take k)).length (Lib.byteCells (joinF (m.take k))) ∧
          wr.heap.size ≤ wq.heap.size ∧ Below wr.heap.size wr wq) (fun _ i _ => M - (intOf i).toNat)
      case atStart => exact ⟨0, by omega, rfl, ⟨by simp [joinF, Lib.byteCells], .inl ⟨rfl, by simp [joinF]⟩⟩, Nat.le_refl _, Below.refl _ _⟩
      case round =>
        obtain ⟨k, hk, rfl, hown, hwz2, hbel⟩ := hrel
        have HO := Lib.hid hown; clear hown
        have HB := Lib.hid hbel; clear hbel
        by_cases hlt : k < M
        · have hx : k < m.length := by have := HM.out; omega
          obtain ⟨b, o, rfl, hb, h1⟩ := HATM.out k hx
          have hcell : wr.cell? ⟨b, o + k, none⟩ = some (.int .i64 m[k]) := by
            have h2 := (HBW.out).cell (p := ⟨b, o + k, none⟩) hb
            have h3 := (HB.out).cell (p := ⟨b, o + k, none⟩) (Nat.lt_of_lt_of_le hb hsw)
            rw [h3, h2, h1]
          have hjl := joinF_len (m.take k)
          have hel := enc_len m[k]
          have hkl : (m.take k).length ≤ k := List.length_take_le _ _
          have e1 : joinF (m.take (k + 1)) = joinF (m.take k) ++ enc m[k] := by
            rw [List.take_succ_eq_append_getElem hx, joinF_append]; simp [joinF]
          obtain ⟨x, hxx⟩ : ∃ x, x = m[k] := ⟨_, rfl⟩
          rw [← hxx] at hcell hel e1
          have E1 := Lib.hid e1; clear e1
          clear hxx
          go_wp2_with (first
              | (go_at_call 18; refine (sign_any _ _).mono ?_; rintro e w2 ⟨rfl, rfl⟩)
              | (at_builtin; (refine pushS rfl (.tmp 47) (.tmp 52) _ _ rfl _ 5 i8 Tryd.underlying22 Tryd.underlying9 hi8 hz8 hz81 hz82 _ _ _ (joinF (m.take k)) rfl HO.out (enc x) rfl (by omega) hwz2 ?_); intro v2 w2 hown2 hw2 hb2; have HO2 := Lib.hid hown2; clear hown2; have HB2 := Lib.hid hb2; clear hb2))
          go_roundw
          case rel =>
            refine ⟨k + 1, hlt, by simp, ?_, by omega, HB.out.trans HB2.out⟩
            rw [E1.out, List.length_append]
            exact HO2.out
          case measure => simp [intOf]; omega
        · obtain rfl : k = M := by omega
          have e1 : m.take k = m := List.take_of_length_le (by have := HM.out; omega)
          have ho := HO.out
          rw [e1] at ho
          have HOM := Lib.hid ho; clear ho
          have HOX := Lib.hid (own_below HOL.out HB.out)
          clear HO e1 HOL
          have HBV := Lib.hid ((HBW.out).trans ((HB.out).mono hsw))
          clear HB
          have hsb := ((HSB0.out).below HBV.out).more (HBV.out).size
          obtain ⟨y1, wy1, y2, wy2, y3, wg, hr1, hr2, hr3, hsg, hbg⟩ := glue3 (P := Tryd.prog) wr 22 22 5 i8 Tryd.underlying22 hi8 hz8 hz81 hz82 (joinF l) lb (joinF m) (by have := HLN.out; omega) _ _ _ (Sl.of_own HOX.out) hsb (Sl.of_own HOM.out)
          have HR1 := Lib.hid hr1; clear hr1
          have HR2 := Lib.hid hr2; clear hr2
          have HR3 := Lib.hid hr3; clear hr3
          have HSG := Lib.hid hsg; clear hsg
          have HSB := Lib.hid (((hsb).below hbg).more hbg.size); clear hsb
          have kx := own_below HOX.out hbg
          have ky := own_below HOM.out hbg
          have HBG := Lib.hid ((HBV.out).trans (hbg.mono (HBV.out).size)); clear hbg
          have k1 : ∀ W, Below wg.heap.size wg W → (convert 22 9 u8).run Tryd.prog W = .ok (.string (bs (joinF l))) W := fun W hW =>
            conv_own Tryd.underlying22 Tryd.underlying5 Tryd.underlying9 (own_below kx hW)
          have k2 : ∀ W, Below wg.heap.size wg W → (convert 22 9 u10).run Tryd.prog W = .ok (.string (bs (joinF m))) W := fun W hW =>
            conv_own Tryd.underlying22 Tryd.underlying5 Tryd.underlying9 (own_below ky hW)
          clear kx ky
          have ka : ¬ 9223372036854775807 < (joinF l).length + (rdec lb).length := by have := HLN.out; have := rdec_len lb; omega
          have kb : ¬ 9223372036854775807 < (joinF l).length + (rdec lb).length + (joinF m).length := by have := HLN.out; have := rdec_len lb; omega
          have HTG := Lib.hid (HT.out.below HBG.out)
          go_wp2_with (at_builtin; first
            | (refine append_run rfl (.tmp 54) (.tmp 55) _ _ rfl _ _ _ _ rfl rfl HR1.out ?_)
            | (refine append_run rfl (.tmp 56) (.tmp 57) _ _ rfl _ _ _ _ rfl rfl HR2.out ?_)
            | (refine append_run rfl (.tmp 58) (.tmp 59) _ _ rfl _ _ _ _ rfl rfl HR3.out ?_))
          refine wp_region_held_drew (S := fun W => Below wg.heap.size wg W) (by kernel_rfl) (by exact bz_drew (bz_refl _)) (fun hHeld => ?_)
          refine tk 0 (v := ?_) rfl (by kernel_rfl) (by kernel_rfl) (by kernel_rfl) (fun _ _ _ h => h) (by rfl) (by assumption) (fun w hSw => ?_) ?_
          rotate_left
          · (try dsimp only at hSw); go_simp; first | done | with_reducible rfl   -- move
          try simp only [Act.put, List.setIfInBounds_toArray, List.set_cons_zero, List.set_cons_succ]
          refine tk 1 (v := ?_) rfl (by kernel_rfl) (by kernel_rfl) (by kernel_rfl) (fun _ _ _ h => h) (by rfl) (by assumption) (fun w hSw => ?_) ?_
          rotate_left
          · (try dsimp only at hSw); go_simp; first | done | with_reducible rfl   -- move
          try simp only [Act.put, List.setIfInBounds_toArray, List.set_cons_zero, List.set_cons_succ]
          refine tk 2 (v := ?_) rfl (by kernel_rfl) (by kernel_rfl) (by kernel_rfl) (fun _ _ _ h => h) (by rfl) (by assumption) (fun w hSw => ?_) ?_
          rotate_left
          · (try dsimp only at hSw); go_simp; first | done | with_reducible rfl   -- move
          try simp only [Act.put, List.setIfInBounds_toArray, List.set_cons_zero, List.set_cons_succ]
          refine tk 4 (v := ?_) rfl (by kernel_rfl) (by kernel_rfl) (by kernel_rfl) (fun _ _ _ h => h) (by rfl) (by assumption) (fun w hSw => ?_) ?_
          rotate_left
          · (try dsimp only at hSw); go_simp; first | done | with_reducible rfl   -- move
          try simp only [Act.put, List.setIfInBounds_toArray, List.set_cons_zero, List.set_cons_succ]
          refine tk 5 (v := ?_) rfl (by kernel_rfl) (by kernel_rfl) (by kernel_rfl) (fun _ _ _ h => h) (by rfl) (by assumption) (fun w hSw => ?_) ?_
          rotate_left
          · (try dsimp only at hSw); go_simp; first | done | with_reducible rfl   -- convert
          try simp only [Act.put, List.setIfInBounds_toArray, List.set_cons_zero, List.set_cons_succ]
          refine tk 6 (v := ?_) rfl (by kernel_rfl) (by kernel_rfl) (by kernel_rfl) (fun _ _ _ h => h) (by rfl) (by assumption) (fun w hSw => ?_) ?_
          rotate_left
          · (try dsimp only at hSw); go_simp; first | done | with_reducible rfl   -- move
          try simp only [Act.put, List.setIfInBounds_toArray, List.set_cons_zero, List.set_cons_succ]
          refine tk 9 (v := ?_) rfl (by kernel_rfl) (by kernel_rfl) (by kernel_rfl) (fun _ _ _ h => h) (by rfl) (by assumption) (fun w hSw => ?_) ?_
          rotate_left
          · (try dsimp only at hSw); go_simp; first | done | with_reducible rfl   -- move
          try simp only [Act.put, List.setIfInBounds_toArray, List.set_cons_zero, List.set_cons_succ]
          refine tk 10 (v := ?_) rfl (by kernel_rfl) (by kernel_rfl) (by kernel_rfl) (fun _ _ _ h => h) (by rfl) (by assumption) (fun w hSw => ?_) ?_
          rotate_left
          · (try dsimp only at hSw); go_simp; first | done | with_reducible rfl   -- convert
          try simp only [Act.put, List.setIfInBounds_toArray, List.set_cons_zero, List.set_cons_succ]
          refine rn 3 (by kernel_rfl) rfl (by rfl) (fun K hK => ?_)   -- call of tamis/text.Decode
          go_simp
          refine (decode_in (wg := wg) _ (joinF l ++ lb ++ joinF m) (joinF l ++ rdec lb ++ joinF m) _ (parts_1 l m lb) HSG.out (by first | assumption | exact bz_drew (bz_refl _) | exact bz_drew (by assumption)) (by have := HLN.out; (try simp only [List.length_append]); omega) HTG.out).mono ?_
          rintro e w7 ⟨rfl, hb7⟩
          replace hb7 := bz_step (a := wg) (by first | assumption | exact bz_drew (bz_refl _) | exact bz_drew (by assumption)) hb7
          try go_wp2_with fail
          refine hK.out _ _ ?_ (fun hHeld1 => ?_)
          · (try dsimp only); first | assumption | exact bz_drew (bz_alloc (by assumption)) | exact bz_alloc (by assumption) | exact bz_drew (by assumption)
          clear hK K
          try simp only [Act.put, List.setIfInBounds_toArray, List.set_cons_zero, List.set_cons_succ]
          refine rn 7 (by kernel_rfl) rfl (by rfl) (fun K hK => ?_)   -- call of tamis/text.Decode
          go_simp
          refine (decode_in (wg := wg) _ lb (rdec lb) _ (decT_eq lb) HSB.out (by first | assumption | exact bz_drew (bz_refl _) | exact bz_drew (by assumption)) (by have := HLN.out; (try simp only [List.length_append]); omega) HTG.out).mono ?_
          rintro e w8 ⟨rfl, hb8⟩
          replace hb8 := bz_step (a := wg) (by first | assumption | exact bz_drew (bz_refl _) | exact bz_drew (by assumption)) hb8
          try go_wp2_with fail
          refine hK.out _ _ ?_ (fun hHeld2 => ?_)
          · (try dsimp only); first | assumption | exact bz_drew (bz_alloc (by assumption)) | exact bz_alloc (by assumption) | exact bz_drew (by assumption)
          clear hK K
          try simp only [Act.put, List.setIfInBounds_toArray, List.set_cons_zero, List.set_cons_succ]
          refine tk 8 (v := ?_) rfl (by kernel_rfl) (by kernel_rfl) (by kernel_rfl) (fun _ _ _ h => h) (by rfl) (by assumption) (fun w hSw => ?_) ?_
          rotate_left
          · (try dsimp only at hSw); go_simp; first | done | with_reducible rfl   -- binOp
          try simp only [Act.put, List.setIfInBounds_toArray, List.set_cons_zero, List.set_cons_succ]
          refine tk 11 (v := ?_) rfl (by kernel_rfl) (by kernel_rfl) (by kernel_rfl) (fun _ _ _ h => h) (by rfl) (by assumption) (fun w hSw => ?_) ?_
          rotate_left
          · (try dsimp only at hSw); go_simp; first | done | with_reducible rfl   -- binOp
          try simp only [Act.put, List.setIfInBounds_toArray, List.set_cons_zero, List.set_cons_succ]
          refine tk 12 (v := ?_) rfl (by kernel_rfl) (by kernel_rfl) (by kernel_rfl) (fun _ _ _ h => h) (by rfl) (by assumption) (fun w hSw => ?_) ?_
          rotate_left
          · (try dsimp only at hSw); go_simp; first | done | with_reducible rfl   -- binOp
          try simp only [Act.put, List.setIfInBounds_toArray, List.set_cons_zero, List.set_cons_succ]
          refine tk 13 (v := ?_) rfl (by kernel_rfl) (by kernel_rfl) (by kernel_rfl) (fun _ _ _ h => h) (by rfl) (by assumption) (fun w hSw => ?_) ?_
          rotate_left
          · (try dsimp only at hSw); go_simp; first | done | with_reducible rfl   -- pick
          try simp only [Act.put, List.setIfInBounds_toArray, List.set_cons_zero, List.set_cons_succ]
          refine tk 14 (v := ?_) rfl (by kernel_rfl) (by kernel_rfl) (by kernel_rfl) (fun _ _ _ h => h) (by rfl) (by assumption) (fun w hSw => ?_) ?_
          rotate_left
          · (try dsimp only at hSw); go_simp; first | done | with_reducible rfl   -- assign
          try simp only [Act.put, List.setIfInBounds_toArray, List.set_cons_zero, List.set_cons_succ]
          refine wpAnyH_done (by kernel_rfl) ?_ _
          go_wp2
          go_ret
          refine ⟨ret1_bool ?_, HBG.out.trans (hb8.mono (HBG.out).size)⟩
          rw [bs_app, bs_app, toList_bs, toList_bs, eq_dec, List.append_assoc]
          simp

theorem textParts_walk (vl : Value) (l : List Int) (vb : Value) (lb : Bytes) (vm : Value) (m : List Int) (w : World) (hl : Sl w.heap.size w vl (I64s l)) (_ : ∀ n ∈ l, (Lit.int .i64 n).wf = true)
    (hb : Sl w.heap.size w vb (Lib.byteCells lb)) (hm : Sl w.heap.size w vm (I64s m)) (_ : ∀ n ∈ m, (Lit.int .i64 n).wf = true) (hT : Tabs w) :
    Calls Tryd.prog 7 #[vl, vb, vm] w fun e w' => e = .returned (.bool true) ∧ Below w.heap.size w w' := by
  obtain ⟨al, cl, rfl⟩ := slice_val hl
  obtain ⟨ab, cb, rfl⟩ := slice_val hb
  obtain ⟨am, cm, rfl⟩ := slice_val hm
  rw [show (I64s l).length = l.length by simp] at hl ⊢
  rw [show (I64s m).length = m.length by simp] at hm ⊢
  rw [Lib.byteCells_length] at hb ⊢
  by_cases h : l.length ≤ 50 ∧ m.length ≤ 50 ∧ lb.length ≤ 300
  · exact textParts_core l m lb al ab am cl cb cm w hl hb hm h.1 h.2.1 h.2.2 hT
  · have HT := Lib.hid hT; clear hT
    clear hl hb hm
    have h : (50 < l.length) ∨ (l.length ≤ 50 ∧ 50 < m.length) ∨ (l.length ≤ 50 ∧ m.length ≤ 50 ∧ 300 < lb.length) := by omega
    generalize l.length = L at *
    generalize m.length = M at *
    generalize lb.length = N at *
    rcases h with h | ⟨h, h1⟩ | ⟨h, h1, h2⟩
    all_goals
      go_enter Tryd.func7, Tryd.ntmps7
      go_wp2_with fail
      refine (small_any _ HT.out).mono ?_
      rintro e w1 ⟨rfl, hb1⟩
      have HB1 := Lib.hid hb1; clear hb1
      go_wp2
      go_ret
      exact ⟨rfl, HB1.out⟩
end Go.Proofs.YtichfpgamlgocaaDoor
