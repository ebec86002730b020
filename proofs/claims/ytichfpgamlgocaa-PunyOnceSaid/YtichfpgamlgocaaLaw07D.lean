/- The walk of PunyOnce. -/
import Derived.Test.YtichfpgamlgocaaLaw07A
import Derived.Test.YtichfpgamlgocaaPunN
import Derived.Test.YtichfpgamlgocaaLow
import Derived.Test.YtichfpgamlgocaaReg
namespace Go.Proofs.Ytichfpgamlgocaa
open Go.RowKit

theorem lower_val (X R : Bytes) (w : World) (h : X.map lowB = R) (hl : X.length ≤ 1000000) : Calls Try.prog 14 #[.string (bs X)] w fun e w' => e = .returned (.string (bs R)) ∧ Below w.heap.size w w' := by
  subst h
  exact lower_any X w (by unfold maxLen; omega)
attribute [local simp] bz_refl bz_drew bz_drewN bz_alloc
set_option maxRecDepth 8000 in
set_option maxHeartbeats 4000000 in
theorem punyOnce_walk (s : ByteArray) (w : World) (_ : s.size ≤ maxLen) :
    Calls Try.prog 6 #[.string s] w fun e w' => e = .returned (.bool true) ∧ Below w.heap.size w w' := by
  by_cases hbig : 400 < s.size
  · go_enter Try.func6, Try.ntmps6
    go_wp2_with fail
    refine (small7_any _).mono ?_
    rintro e w1 ⟨rfl, hb1⟩
    have HB1 := Lib.hid hb1; clear hb1
    go_wp2_with fail
    go_ret
    exact ⟨rfl, HB1.out⟩
  · obtain ⟨s0, hs0⟩ : ∃ s0, s0 = ls s := ⟨_, rfl⟩
    have hss : s = bs s0 := by rw [hs0, bs_ls]
    have hsz : s0.length = s.size := by rw [hs0, ls_length]
    clear hs0
    have hd := fun W => decode_core s0 W (by omega)
    rw [← hss] at hd
    cases hD : decF s0 with
    | none =>
      rw [hD] at hd
      have HD := Lib.hid hd; clear hd hD hss hsz
      go_enter Try.func6, Try.ntmps6
      go_wp2_with fail
      refine (small7_any _).mono ?_
      rintro e w1 ⟨rfl, hb1⟩
      have HB1 := Lib.hid hb1; clear hb1
      go_wp2_with fail
      refine (HD.out _).mono ?_
      rintro e w2 ⟨v2, rfl, ho2, _, hb2⟩
      have HB2 := Lib.hid (HB1.out.trans (hb2.mono HB1.out.size)); clear hb2
      obtain ⟨a2, c2, rfl⟩ := slice_val (Sl.of_own ho2)
      simp only [Option.getD_none, List.map_nil, List.length_nil]
      clear ho2
      go_wp2_with fail
      go_ret
      exact ⟨ret1_bool (by simp), HB2.out⟩
    | some l =>
      rw [hD] at hd
      obtain ⟨f1, f2, f3, f4⟩ := enc_of_dec hD
      have hen : encR l = (encF l, true) := by
        rcases encR_cases l with e1 | ⟨e1, _⟩
        · exfalso
          unfold encR at e1
          rw [if_neg (by rw [List.all_eq_true.mpr f1]; simp; omega)] at e1
          exact absurd (congrArg Prod.snd e1) (by simp)
        · exact e1
      have hlt := congrArg List.length f4
      rw [List.length_map, List.length_map] at hlt
      have hlow : ∀ n, ((encF l).drop n).map lowB = (s0.drop n).map lowB := fun n => by rw [List.map_drop, f4, ← List.map_drop]
      obtain ⟨A, hA⟩ : ∃ A, A = encF l := ⟨_, rfl⟩
      rw [← hA] at hen hlt hlow
      clear f4 hA f1
      obtain ⟨t, htt⟩ : ∃ t, t = bs A := ⟨_, rfl⟩
      have hts : t.size = s.size := by rw [htt, bs_size, hlt, hsz]
      obtain ⟨L, hL⟩ : ∃ L, L = l.length := ⟨_, rfl⟩
      rw [← hL] at f2 f3
      have HD := Lib.hid hd; clear hd hD
      have HEN := Lib.hid hen; clear hen
      have HLW := Lib.hid hlow; clear hlow
      have HL := Lib.hid hL; clear hL
      have HSS := Lib.hid hss; clear hss
      have HTT := Lib.hid htt; clear htt hlt
      rw [hsz] at f3
      obtain ⟨Z, hZ⟩ : ∃ Z, Z = s.size := ⟨_, rfl⟩
      have hsZ : s.size = Z := hZ.symm
      rw [hsZ] at hts f3 hbig hsz
      clear hZ
      have HSZ := Lib.hid hsz; clear hsz
      go_enter Try.func6, Try.ntmps6
      go_wp2_with fail
      refine (small7_any _).mono ?_
      rintro e w1 ⟨rfl, hb1⟩
      have HB1 := Lib.hid hb1; clear hb1
      go_wp2_with fail
      refine (HD.out _).mono ?_
      rintro e w2 ⟨v2, rfl, ho2, _, hb2⟩
      have HB2 := Lib.hid (HB1.out.trans (hb2.mono HB1.out.size)); clear hb2
      simp only [Option.getD_some] at ho2
      have HO2 := Lib.hid (Sl.of_own ho2)
      obtain ⟨a2, c2, rfl⟩ := slice_val (Sl.of_own ho2)
      rw [show (I64s l).length = L by rw [List.length_map, HL.out]] at *
      clear ho2
      go_wp2_with fail
      refine (encode_val l _ A true w2 _ HO2.out (Nat.le_refl _) HEN.out).mono ?_
      rintro e w3 ⟨rfl, hb3⟩
      rw [show S A = .string t by rw [HTT.out]]
      have HB3 := Lib.hid (HB2.out.trans (hb3.mono HB2.out.size)); clear hb3 HO2
      go_wp2_with fail
      go_loopw [8] (fun iv wr => ∃ k d : Nat, k ≤ L ∧ k ≤ Z ∧ iv = .int .i64 k ∧ wr = w3.drewN d) (fun i _ => L - (intOf i).toNat)
      case atStart => exact ⟨0, 0, by omega, by omega, by simp, rfl⟩
      case round =>
        obtain ⟨k, d, hkL, hkZ, rfl, rfl⟩ := hrel
        have hext : t.extract k Z = bs (A.drop k) := by rw [← hts, HTT.out]; exact drop_str A k
        have hexs : s.extract k Z = bs (s0.drop k) := by rw [← hsZ, HSS.out]; exact drop_str s0 k
        have hlwt := fun W => lower_val (A.drop k) ((s0.drop k).map lowB) W (HLW.out k) (by have h1 := congrArg ByteArray.size HTT.out; rw [bs_size, hts] at h1; rw [List.length_drop]; omega)
        have hlws := fun W => lower_val (s0.drop k) ((s0.drop k).map lowB) W rfl (by have := HSZ.out; rw [List.length_drop]; omega)
        rw [← hext] at hlwt
        rw [← hexs] at hlws
        clear hext hexs
        have HLT := Lib.hid hlwt; clear hlwt
        have HLS := Lib.hid hlws; clear hlws
        have hbe : ((bs ((s0.drop k).map lowB)).toList == (bs ((s0.drop k).map lowB)).toList) = true := by simp
        obtain ⟨R, hR⟩ : ∃ R, R = (s0.drop k).map lowB := ⟨_, rfl⟩
        rw [← hR] at hbe HLT HLS
        clear hR
        by_cases hlt : k < L
        · have hlz : k < Z := by omega
          have hkt : k < t.size := by omega
          have hks : k < s.size := by omega
          have hL1 : k < L := hlt
          by_cases he : ((t[k]'hkt).toNat : Int) = ((s[k]'hks).toNat : Int)
          · have he2 : (((t[k]'hkt).toNat : Int) == ((s[k]'hks).toNat : Int)) = true := by rw [he]; simp
            clear he hbe
            go_wp2_with fail
            go_quiet (fail)
            go_wp2_with fail
            go_roundw
            case rel => exact ⟨k + 1, _, by omega, by omega, by simp, rfl⟩
            case measure => simp [intOf]; omega
          · have he2 : (((t[k]'hkt).toNat : Int) == ((s[k]'hks).toNat : Int)) = false := by simp [he]
            clear he
            go_wp2_with fail
            go_quiet (fail)
            have HS0 := Lib.hid (below_drewN (below_drewN HB3.out d) nq)
            clear he2
            go_wp2_with fail
            refine wp_region_held_drew (S := fun W => Below w.heap.size w W) (by kernel_rfl) (by exact HS0.out.drew) (fun hHeld => ?_)
            refine tk 0 (v := ?_) rfl (by kernel_rfl) (by kernel_rfl) (by kernel_rfl) (fun _ _ _ h => h) (by rfl) (by assumption) (fun w hSw => ?_) ?_
            rotate_left
            · (try dsimp only at hSw); go_simp; first | done | with_reducible rfl   -- move
            try simp only [Act.put, List.setIfInBounds_toArray, List.set_cons_zero, List.set_cons_succ]
            refine tk 1 (v := ?_) rfl (by kernel_rfl) (by kernel_rfl) (by kernel_rfl) (fun _ _ _ h => h) (by rfl) (by assumption) (fun w hSw => ?_) ?_
            rotate_left
            · (try dsimp only at hSw); go_simp; first | done | with_reducible rfl   -- move
            try simp only [Act.put, List.setIfInBounds_toArray, List.set_cons_zero, List.set_cons_succ]
            refine tk 2 (v := ?_) rfl (by kernel_rfl) (by kernel_rfl) (by kernel_rfl) (fun _ _ _ h => h) (by rfl) (by assumption) (fun w hSw => ?_) ?_
            rotate_left
            · (try dsimp only at hSw); go_simp; first | done | with_reducible rfl   -- move
            try simp only [Act.put, List.setIfInBounds_toArray, List.set_cons_zero, List.set_cons_succ]
            refine tk 3 (v := ?_) rfl (by kernel_rfl) (by kernel_rfl) (by kernel_rfl) (fun _ _ _ h => h) (by rfl) (by assumption) (fun w hSw => ?_) ?_
            rotate_left
            · (try dsimp only at hSw); go_simp; first | done | with_reducible rfl   -- move
            try simp only [Act.put, List.setIfInBounds_toArray, List.set_cons_zero, List.set_cons_succ]
            refine tk 4 (v := ?_) rfl (by kernel_rfl) (by kernel_rfl) (by kernel_rfl) (fun _ _ _ h => h) (by rfl) (by assumption) (fun w hSw => ?_) ?_
            rotate_left
            · (try dsimp only at hSw); go_simp; first | done | with_reducible rfl   -- slice
            try simp only [Act.put, List.setIfInBounds_toArray, List.set_cons_zero, List.set_cons_succ]
            refine tk 6 (v := ?_) rfl (by kernel_rfl) (by kernel_rfl) (by kernel_rfl) (fun _ _ _ h => h) (by rfl) (by assumption) (fun w hSw => ?_) ?_
            rotate_left
            · (try dsimp only at hSw); go_simp; first | done | with_reducible rfl   -- move
            try simp only [Act.put, List.setIfInBounds_toArray, List.set_cons_zero, List.set_cons_succ]
            refine tk 7 (v := ?_) rfl (by kernel_rfl) (by kernel_rfl) (by kernel_rfl) (fun _ _ _ h => h) (by rfl) (by assumption) (fun w hSw => ?_) ?_
            rotate_left
            · (try dsimp only at hSw); go_simp; first | done | with_reducible rfl   -- move
            try simp only [Act.put, List.setIfInBounds_toArray, List.set_cons_zero, List.set_cons_succ]
            refine tk 8 (v := ?_) rfl (by kernel_rfl) (by kernel_rfl) (by kernel_rfl) (fun _ _ _ h => h) (by rfl) (by assumption) (fun w hSw => ?_) ?_
            rotate_left
            · (try dsimp only at hSw); go_simp; first | done | with_reducible rfl   -- slice
            try simp only [Act.put, List.setIfInBounds_toArray, List.set_cons_zero, List.set_cons_succ]
            refine rn 5 (by kernel_rfl) rfl (by rfl) (fun K hK => ?_)   -- call of tamis/ascii.Lower
            go_simp
            refine (HLT.out _).mono ?_
            rintro e w7 ⟨rfl, hb7⟩
            replace hb7 := bz_step (a := w) (by first | assumption | exact below_drewN HB3.out _ | exact bz_drew (by assumption)) hb7
            try go_wp2_with fail
            refine hK.out _ _ ?_ (fun hHeld1 => ?_)
            · (try dsimp only); first | assumption | exact bz_drew (bz_alloc (by assumption)) | exact bz_alloc (by assumption) | exact bz_drew (by assumption)
            clear hK K
            try simp only [Act.put, List.setIfInBounds_toArray, List.set_cons_zero, List.set_cons_succ]
            refine rn 9 (by kernel_rfl) rfl (by rfl) (fun K hK => ?_)   -- call of tamis/ascii.Lower
            go_simp
            refine (HLS.out _).mono ?_
            rintro e w8 ⟨rfl, hb8⟩
            replace hb8 := bz_step (a := w) (by first | assumption | exact below_drewN HB3.out _ | exact bz_drew (by assumption)) hb8
            try go_wp2_with fail
            refine hK.out _ _ ?_ (fun hHeld2 => ?_)
            · (try dsimp only); first | assumption | exact bz_drew (bz_alloc (by assumption)) | exact bz_alloc (by assumption) | exact bz_drew (by assumption)
            clear hK K
            try simp only [Act.put, List.setIfInBounds_toArray, List.set_cons_zero, List.set_cons_succ]
            refine tk 10 (v := ?_) rfl (by kernel_rfl) (by kernel_rfl) (by kernel_rfl) (fun _ _ _ h => h) (by rfl) (by assumption) (fun w hSw => ?_) ?_
            rotate_left
            · (try dsimp only at hSw); go_simp; first | done | with_reducible rfl   -- binOp
            try simp only [Act.put, List.setIfInBounds_toArray, List.set_cons_zero, List.set_cons_succ]
            refine tk 11 (v := ?_) rfl (by kernel_rfl) (by kernel_rfl) (by kernel_rfl) (fun _ _ _ h => h) (by rfl) (by assumption) (fun w hSw => ?_) ?_
            rotate_left
            · (try dsimp only at hSw); go_simp; first | done | with_reducible rfl   -- pick
            try simp only [Act.put, List.setIfInBounds_toArray, List.set_cons_zero, List.set_cons_succ]
            refine tk 12 (v := ?_) rfl (by kernel_rfl) (by kernel_rfl) (by kernel_rfl) (fun _ _ _ h => h) (by rfl) (by assumption) (fun w hSw => ?_) ?_
            rotate_left
            · (try dsimp only at hSw); go_simp; first | done | with_reducible rfl   -- move
            try simp only [Act.put, List.setIfInBounds_toArray, List.set_cons_zero, List.set_cons_succ]
            refine tk 13 (v := ?_) rfl (by kernel_rfl) (by kernel_rfl) (by kernel_rfl) (fun _ _ _ h => h) (by rfl) (by assumption) (fun w hSw => ?_) ?_
            rotate_left
            · (try dsimp only at hSw); go_simp; first | done | with_reducible rfl   -- move
            try simp only [Act.put, List.setIfInBounds_toArray, List.set_cons_zero, List.set_cons_succ]
            refine tk 14 (v := ?_) rfl (by kernel_rfl) (by kernel_rfl) (by kernel_rfl) (fun _ _ _ h => h) (by rfl) (by assumption) (fun w hSw => ?_) ?_
            rotate_left
            · (try dsimp only at hSw); go_simp; first | done | with_reducible rfl   -- move
            try simp only [Act.put, List.setIfInBounds_toArray, List.set_cons_zero, List.set_cons_succ]
            refine tk 15 (v := ?_) rfl (by kernel_rfl) (by kernel_rfl) (by kernel_rfl) (fun _ _ _ h => h) (by rfl) (by assumption) (fun w hSw => ?_) ?_
            rotate_left
            · (try dsimp only at hSw); go_simp; first | done | with_reducible rfl   -- call
            try simp only [Act.put, List.setIfInBounds_toArray, List.set_cons_zero, List.set_cons_succ]
            refine tk 16 (v := ?_) rfl (by kernel_rfl) (by kernel_rfl) (by kernel_rfl) (fun _ _ _ h => h) (by rfl) (by assumption) (fun w hSw => ?_) ?_
            rotate_left
            · (try dsimp only at hSw); go_simp; first | done | with_reducible rfl   -- binOp
            try simp only [Act.put, List.setIfInBounds_toArray, List.set_cons_zero, List.set_cons_succ]
            refine tk 17 (v := ?_) rfl (by kernel_rfl) (by kernel_rfl) (by kernel_rfl) (fun _ _ _ h => h) (by rfl) (by assumption) (fun w hSw => ?_) ?_
            rotate_left
            · (try dsimp only at hSw); go_simp; first | done | with_reducible rfl   -- move
            try simp only [Act.put, List.setIfInBounds_toArray, List.set_cons_zero, List.set_cons_succ]
            refine sk 18 rfl (by kernel_rfl) (by kernel_rfl) (by kernel_rfl) (fun _ _ _ h => h) (by rfl) (by assumption) ?_
            try simp only [Act.put, List.setIfInBounds_toArray, List.set_cons_zero, List.set_cons_succ]
            refine sk 19 rfl (by kernel_rfl) (by kernel_rfl) (by kernel_rfl) (fun _ _ _ h => h) (by rfl) (by assumption) ?_
            try simp only [Act.put, List.setIfInBounds_toArray, List.set_cons_zero, List.set_cons_succ]
            refine sk 20 rfl (by kernel_rfl) (by kernel_rfl) (by kernel_rfl) (fun _ _ _ h => h) (by rfl) (by assumption) ?_
            try simp only [Act.put, List.setIfInBounds_toArray, List.set_cons_zero, List.set_cons_succ]
            refine sk 21 rfl (by kernel_rfl) (by kernel_rfl) (by kernel_rfl) (fun _ _ _ h => h) (by rfl) (by assumption) ?_
            try simp only [Act.put, List.setIfInBounds_toArray, List.set_cons_zero, List.set_cons_succ]
            refine sk 22 rfl (by kernel_rfl) (by kernel_rfl) (by kernel_rfl) (fun _ _ _ h => h) (by rfl) (by assumption) ?_
            try simp only [Act.put, List.setIfInBounds_toArray, List.set_cons_zero, List.set_cons_succ]
            refine tk 23 (v := ?_) rfl (by kernel_rfl) (by kernel_rfl) (by kernel_rfl) (fun _ _ _ h => h) (by rfl) (by assumption) (fun w hSw => ?_) ?_
            rotate_left
            · (try dsimp only at hSw); go_simp; first | done | with_reducible rfl   -- pick
            try simp only [Act.put, List.setIfInBounds_toArray, List.set_cons_zero, List.set_cons_succ]
            refine tk 24 (v := ?_) rfl (by kernel_rfl) (by kernel_rfl) (by kernel_rfl) (fun _ _ _ h => h) (by rfl) (by assumption) (fun w hSw => ?_) ?_
            rotate_left
            · (try dsimp only at hSw); go_simp; first | done | with_reducible rfl   -- pick
            try simp only [Act.put, List.setIfInBounds_toArray, List.set_cons_zero, List.set_cons_succ]
            refine tk 25 (v := ?_) rfl (by kernel_rfl) (by kernel_rfl) (by kernel_rfl) (fun _ _ _ h => h) (by rfl) (by assumption) (fun w hSw => ?_) ?_
            rotate_left
            · (try dsimp only at hSw); go_simp; first | done | with_reducible rfl   -- assign
            try simp only [Act.put, List.setIfInBounds_toArray, List.set_cons_zero, List.set_cons_succ]
            refine wpAnyH_done (by kernel_rfl) ?_ _
            go_wp2_with fail
            go_ret
            exact ⟨ret1_bool (by simp), by assumption⟩
        · obtain rfl : k = L := by omega
          go_wp2_with fail
          go_quiet (fail)
          have HS0 := Lib.hid (below_drewN (below_drewN HB3.out d) nq)
          go_wp2_with fail
          refine wp_region_held_drew (S := fun W => Below w.heap.size w W) (by kernel_rfl) (by exact HS0.out.drew) (fun hHeld => ?_)
          refine tk 0 (v := ?_) rfl (by kernel_rfl) (by kernel_rfl) (by kernel_rfl) (fun _ _ _ h => h) (by rfl) (by assumption) (fun w hSw => ?_) ?_
          rotate_left
          · (try dsimp only at hSw); go_simp; first | done | with_reducible rfl   -- move
          try simp only [Act.put, List.setIfInBounds_toArray, List.set_cons_zero, List.set_cons_succ]
          refine tk 1 (v := ?_) rfl (by kernel_rfl) (by kernel_rfl) (by kernel_rfl) (fun _ _ _ h => h) (by rfl) (by assumption) (fun w hSw => ?_) ?_
          rotate_left
          · (try dsimp only at hSw); go_simp; first | done | with_reducible rfl   -- move
          try simp only [Act.put, List.setIfInBounds_toArray, List.set_cons_zero, List.set_cons_succ]
          refine tk 2 (v := ?_) rfl (by kernel_rfl) (by kernel_rfl) (by kernel_rfl) (fun _ _ _ h => h) (by rfl) (by assumption) (fun w hSw => ?_) ?_
          rotate_left
          · (try dsimp only at hSw); go_simp; first | done | with_reducible rfl   -- move
          try simp only [Act.put, List.setIfInBounds_toArray, List.set_cons_zero, List.set_cons_succ]
          refine tk 3 (v := ?_) rfl (by kernel_rfl) (by kernel_rfl) (by kernel_rfl) (fun _ _ _ h => h) (by rfl) (by assumption) (fun w hSw => ?_) ?_
          rotate_left
          · (try dsimp only at hSw); go_simp; first | done | with_reducible rfl   -- move
          try simp only [Act.put, List.setIfInBounds_toArray, List.set_cons_zero, List.set_cons_succ]
          refine tk 4 (v := ?_) rfl (by kernel_rfl) (by kernel_rfl) (by kernel_rfl) (fun _ _ _ h => h) (by rfl) (by assumption) (fun w hSw => ?_) ?_
          rotate_left
          · (try dsimp only at hSw); go_simp; first | done | with_reducible rfl   -- slice
          try simp only [Act.put, List.setIfInBounds_toArray, List.set_cons_zero, List.set_cons_succ]
          refine tk 6 (v := ?_) rfl (by kernel_rfl) (by kernel_rfl) (by kernel_rfl) (fun _ _ _ h => h) (by rfl) (by assumption) (fun w hSw => ?_) ?_
          rotate_left
          · (try dsimp only at hSw); go_simp; first | done | with_reducible rfl   -- move
          try simp only [Act.put, List.setIfInBounds_toArray, List.set_cons_zero, List.set_cons_succ]
          refine tk 7 (v := ?_) rfl (by kernel_rfl) (by kernel_rfl) (by kernel_rfl) (fun _ _ _ h => h) (by rfl) (by assumption) (fun w hSw => ?_) ?_
          rotate_left
          · (try dsimp only at hSw); go_simp; first | done | with_reducible rfl   -- move
          try simp only [Act.put, List.setIfInBounds_toArray, List.set_cons_zero, List.set_cons_succ]
          refine tk 8 (v := ?_) rfl (by kernel_rfl) (by kernel_rfl) (by kernel_rfl) (fun _ _ _ h => h) (by rfl) (by assumption) (fun w hSw => ?_) ?_
          rotate_left
          · (try dsimp only at hSw); go_simp; first | done | with_reducible rfl   -- slice
          try simp only [Act.put, List.setIfInBounds_toArray, List.set_cons_zero, List.set_cons_succ]
          refine rn 5 (by kernel_rfl) rfl (by rfl) (fun K hK => ?_)   -- call of tamis/ascii.Lower
          go_simp
          refine (HLT.out _).mono ?_
          rintro e w7 ⟨rfl, hb7⟩
          replace hb7 := bz_step (a := w) (by first | assumption | exact below_drewN HB3.out _ | exact bz_drew (by assumption)) hb7
          try go_wp2_with fail
          refine hK.out _ _ ?_ (fun hHeld1 => ?_)
          · (try dsimp only); first | assumption | exact bz_drew (bz_alloc (by assumption)) | exact bz_alloc (by assumption) | exact bz_drew (by assumption)
          clear hK K
          try simp only [Act.put, List.setIfInBounds_toArray, List.set_cons_zero, List.set_cons_succ]
          refine rn 9 (by kernel_rfl) rfl (by rfl) (fun K hK => ?_)   -- call of tamis/ascii.Lower
          go_simp
          refine (HLS.out _).mono ?_
          rintro e w8 ⟨rfl, hb8⟩
          replace hb8 := bz_step (a := w) (by first | assumption | exact below_drewN HB3.out _ | exact bz_drew (by assumption)) hb8
          try go_wp2_with fail
          refine hK.out _ _ ?_ (fun hHeld2 => ?_)
          · (try dsimp only); first | assumption | exact bz_drew (bz_alloc (by assumption)) | exact bz_alloc (by assumption) | exact bz_drew (by assumption)
          clear hK K
          try simp only [Act.put, List.setIfInBounds_toArray, List.set_cons_zero, List.set_cons_succ]
          refine tk 10 (v := ?_) rfl (by kernel_rfl) (by kernel_rfl) (by kernel_rfl) (fun _ _ _ h => h) (by rfl) (by assumption) (fun w hSw => ?_) ?_
          rotate_left
          · (try dsimp only at hSw); go_simp; first | done | with_reducible rfl   -- binOp
          try simp only [Act.put, List.setIfInBounds_toArray, List.set_cons_zero, List.set_cons_succ]
          refine tk 11 (v := ?_) rfl (by kernel_rfl) (by kernel_rfl) (by kernel_rfl) (fun _ _ _ h => h) (by rfl) (by assumption) (fun w hSw => ?_) ?_
          rotate_left
          · (try dsimp only at hSw); go_simp; first | done | with_reducible rfl   -- pick
          try simp only [Act.put, List.setIfInBounds_toArray, List.set_cons_zero, List.set_cons_succ]
          refine tk 12 (v := ?_) rfl (by kernel_rfl) (by kernel_rfl) (by kernel_rfl) (fun _ _ _ h => h) (by rfl) (by assumption) (fun w hSw => ?_) ?_
          rotate_left
          · (try dsimp only at hSw); go_simp; first | done | with_reducible rfl   -- move
          try simp only [Act.put, List.setIfInBounds_toArray, List.set_cons_zero, List.set_cons_succ]
          refine tk 13 (v := ?_) rfl (by kernel_rfl) (by kernel_rfl) (by kernel_rfl) (fun _ _ _ h => h) (by rfl) (by assumption) (fun w hSw => ?_) ?_
          rotate_left
          · (try dsimp only at hSw); go_simp; first | done | with_reducible rfl   -- move
          try simp only [Act.put, List.setIfInBounds_toArray, List.set_cons_zero, List.set_cons_succ]
          refine tk 14 (v := ?_) rfl (by kernel_rfl) (by kernel_rfl) (by kernel_rfl) (fun _ _ _ h => h) (by rfl) (by assumption) (fun w hSw => ?_) ?_
          rotate_left
          · (try dsimp only at hSw); go_simp; first | done | with_reducible rfl   -- move
          try simp only [Act.put, List.setIfInBounds_toArray, List.set_cons_zero, List.set_cons_succ]
          refine tk 15 (v := ?_) rfl (by kernel_rfl) (by kernel_rfl) (by kernel_rfl) (fun _ _ _ h => h) (by rfl) (by assumption) (fun w hSw => ?_) ?_
          rotate_left
          · (try dsimp only at hSw); go_simp; first | done | with_reducible rfl   -- call
          try simp only [Act.put, List.setIfInBounds_toArray, List.set_cons_zero, List.set_cons_succ]
          refine tk 16 (v := ?_) rfl (by kernel_rfl) (by kernel_rfl) (by kernel_rfl) (fun _ _ _ h => h) (by rfl) (by assumption) (fun w hSw => ?_) ?_
          rotate_left
          · (try dsimp only at hSw); go_simp; first | done | with_reducible rfl   -- binOp
          try simp only [Act.put, List.setIfInBounds_toArray, List.set_cons_zero, List.set_cons_succ]
          refine tk 17 (v := ?_) rfl (by kernel_rfl) (by kernel_rfl) (by kernel_rfl) (fun _ _ _ h => h) (by rfl) (by assumption) (fun w hSw => ?_) ?_
          rotate_left
          · (try dsimp only at hSw); go_simp; first | done | with_reducible rfl   -- move
          try simp only [Act.put, List.setIfInBounds_toArray, List.set_cons_zero, List.set_cons_succ]
          refine tk 18 (v := ?_) rfl (by kernel_rfl) (by kernel_rfl) (by kernel_rfl) (fun _ _ _ h => h) (by rfl) (by assumption) (fun w hSw => ?_) ?_
          rotate_left
          · (try dsimp only at hSw); go_simp; first | done | with_reducible rfl   -- move
          try simp only [Act.put, List.setIfInBounds_toArray, List.set_cons_zero, List.set_cons_succ]
          refine tk 19 (v := ?_) rfl (by kernel_rfl) (by kernel_rfl) (by kernel_rfl) (fun _ _ _ h => h) (by rfl) (by assumption) (fun w hSw => ?_) ?_
          rotate_left
          · (try dsimp only at hSw); go_simp; first | done | with_reducible rfl   -- call
          try simp only [Act.put, List.setIfInBounds_toArray, List.set_cons_zero, List.set_cons_succ]
          refine tk 20 (v := ?_) rfl (by kernel_rfl) (by kernel_rfl) (by kernel_rfl) (fun _ _ _ h => h) (by rfl) (by assumption) (fun w hSw => ?_) ?_
          rotate_left
          · (try dsimp only at hSw); go_simp; first | done | with_reducible rfl   -- move
          try simp only [Act.put, List.setIfInBounds_toArray, List.set_cons_zero, List.set_cons_succ]
          refine tk 21 (v := ?_) rfl (by kernel_rfl) (by kernel_rfl) (by kernel_rfl) (fun _ _ _ h => h) (by rfl) (by assumption) (fun w hSw => ?_) ?_
          rotate_left
          · (try dsimp only at hSw); go_simp; first | done | with_reducible rfl   -- call
          try simp only [Act.put, List.setIfInBounds_toArray, List.set_cons_zero, List.set_cons_succ]
          refine tk 22 (v := ?_) rfl (by kernel_rfl) (by kernel_rfl) (by kernel_rfl) (fun _ _ _ h => h) (by rfl) (by assumption) (fun w hSw => ?_) ?_
          rotate_left
          · (try dsimp only at hSw); go_simp; first | done | with_reducible rfl   -- binOp
          try simp only [Act.put, List.setIfInBounds_toArray, List.set_cons_zero, List.set_cons_succ]
          refine tk 23 (v := ?_) rfl (by kernel_rfl) (by kernel_rfl) (by kernel_rfl) (fun _ _ _ h => h) (by rfl) (by assumption) (fun w hSw => ?_) ?_
          rotate_left
          · (try dsimp only at hSw); go_simp; first | done | with_reducible rfl   -- pick
          try simp only [Act.put, List.setIfInBounds_toArray, List.set_cons_zero, List.set_cons_succ]
          refine tk 24 (v := ?_) rfl (by kernel_rfl) (by kernel_rfl) (by kernel_rfl) (fun _ _ _ h => h) (by rfl) (by assumption) (fun w hSw => ?_) ?_
          rotate_left
          · (try dsimp only at hSw); go_simp; first | done | with_reducible rfl   -- pick
          try simp only [Act.put, List.setIfInBounds_toArray, List.set_cons_zero, List.set_cons_succ]
          refine tk 25 (v := ?_) rfl (by kernel_rfl) (by kernel_rfl) (by kernel_rfl) (fun _ _ _ h => h) (by rfl) (by assumption) (fun w hSw => ?_) ?_
          rotate_left
          · (try dsimp only at hSw); go_simp; first | done | with_reducible rfl   -- assign
          try simp only [Act.put, List.setIfInBounds_toArray, List.set_cons_zero, List.set_cons_succ]
          refine wpAnyH_done (by kernel_rfl) ?_ _
          go_wp2_with fail
          go_ret
          exact ⟨ret1_bool (by simp), by assumption⟩
end Go.Proofs.Ytichfpgamlgocaa
