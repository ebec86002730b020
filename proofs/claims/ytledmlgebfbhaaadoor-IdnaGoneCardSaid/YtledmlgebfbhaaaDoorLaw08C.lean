/- The walk of IdnaGone. Written by gen08C.py. -/
import Derived.Test.YtledmlgebfbhaaaDoorLaw08B
namespace Go.Proofs.YtledmlgebfbhaaaDoor
open Go.RowKit
set_option maxRecDepth 10000

theorem join_snoc {l : List Int} {k : Nat} (h : k < l.length) : joinF (l.take (k + 1)) = joinF (l.take k) ++ enc l[k] := by
  rw [List.take_succ_eq_append_getElem h, joinF_append, joinF_cons]
  simp [joinF]
set_option maxHeartbeats 4000000 in
theorem idnaGone_walk (v0 : Value) (la : List Int) (c : Int) (v2 : Value) (lb : List Int) (w : World) (ha : Sl w.heap.size w v0 (I64s la)) (_ : ∀ n ∈ la, (Lit.int .i64 n).wf = true) (_ : (Lit.int .i64 c).wf = true) (hb : Sl w.heap.size w v2 (I64s lb)) (_ : ∀ n ∈ lb, (Lit.int .i64 n).wf = true) (hE : Env w) :
    Calls Tryd.prog 9 #[v0, .int .i64 c, v2] w fun e w' => e = .returned (.bool true) ∧ Below w.heap.size w w' := by
  have HSM := Lib.hid (small8_any w hE)
  obtain ⟨aa, ca, rfl⟩ := slice_val ha
  obtain ⟨ab, cb, rfl⟩ := slice_val hb
  rw [show (I64s la).length = la.length by simp] at ha ⊢
  rw [show (I64s lb).length = lb.length by simp] at hb ⊢
  have hata := fun (W : World) (h : Below w.heap.size w W) => slice_at (ha.below h)
  have hatb := fun (W : World) (h : Below w.heap.size w W) => slice_at (hb.below h)
  clear ha hb
  have hma := fun W => map_any c W
  have hgone := dom_gone la lb (c := c)
  have hja := joinF_len la
  have hjb := joinF_len lb
  obtain ⟨K, hK⟩ : ∃ K, K = (mapF c).2 := ⟨_, rfl⟩
  obtain ⟨M, hM⟩ : ∃ M, M = (mapF c).1 := ⟨_, rfl⟩
  rw [← hK, ← hM] at hma
  rw [← hK] at hgone
  clear hK hM
  have HMA := Lib.hid hma; clear hma
  obtain ⟨La, hLa⟩ : ∃ La, La = la.length := ⟨_, rfl⟩
  obtain ⟨Lb, hLb⟩ : ∃ Lb, Lb = lb.length := ⟨_, rfl⟩
  rw [← hLa] at hja
  rw [← hLb] at hjb
  rw [← hLa, ← hLb]
  have HATA := Lib.hid hata; clear hata
  have HATB := Lib.hid hatb; clear hatb
  have HLa := Lib.hid hLa; clear hLa
  have HLb := Lib.hid hLb; clear hLb
  have hcs : 50 < La ∨ (La ≤ 50 ∧ 50 < Lb) ∨ (La ≤ 50 ∧ Lb ≤ 50 ∧ K ≠ 3) ∨ (La ≤ 50 ∧ Lb ≤ 50 ∧ K = 3) := by omega
  rcases hcs with h1 | ⟨h1, h2⟩ | ⟨h1, h2, h3⟩ | ⟨h1, h2, rfl⟩
  case inr.inr.inr =>
    have hg := hgone rfl
    clear hgone
    have hsn := fun W => sign_any c W
    have hcl := (enc_len c).2
    obtain ⟨C, hC⟩ : ∃ C, C = enc c := ⟨_, rfl⟩
    rw [← hC] at hg hsn hcl
    clear hC
    have hd1 := fun W h => dom_is (joinF la ++ C ++ joinF lb) _ _ w W (by rw [List.length_append, List.length_append]; omega) hE h rfl rfl
    have hd2 := fun W h => dom_is (joinF la ++ joinF lb) _ _ w W (by rw [List.length_append]; omega) hE h rfl rfl
    rw [hg] at hd1
    obtain ⟨O, hO⟩ : ∃ O, O = (domF (joinF la ++ joinF lb)).getD [] := ⟨_, rfl⟩
    obtain ⟨m, hm⟩ : ∃ m, m = (domF (joinF la ++ joinF lb)).isSome := ⟨_, rfl⟩
    rw [← hO, ← hm] at hd1 hd2
    clear hO hm hg hE
    have HSN := Lib.hid hsn; clear hsn
    have HD1 := Lib.hid hd1; clear hd1
    have HD2 := Lib.hid hd2; clear hd2
    go_enter Tryd.func9, Tryd.ntmps9
    go_wp2_with fail
    refine (HSM.out).mono ?_
    rintro e w1 ⟨rfl, hb1⟩
    have HB1 := Lib.hid hb1; clear hb1
    go_wp2_with fail
    refine (HMA.out _).mono ?_
    rintro e w2 ⟨rfl, hb2⟩
    have HB2 := Lib.hid (HB1.out.trans (hb2.mono HB1.out.size)); clear hb2
    have HTA := Lib.hid (HATA.out _ HB2.out)
    have HTB := Lib.hid (HATB.out _ HB2.out)
    go_wp2_with fail
    go_loopw [10, 11] (fun sv iv wr => ∃ k : Nat, k ≤ La ∧ iv = .int .i64 k ∧ sv = .string (bs (joinF (la.take k))) ∧ w2 = wr) (fun _ i _ => La - (intOf i).toNat)
    case atStart => exact ⟨0, by omega, by simp, by simp [joinF, bs], rfl⟩
    case round =>
      obtain ⟨k, hk, rfl, rfl, rfl⟩ := hrel
      by_cases hlt : k < La
      · have hx : k < la.length := by have := HLa.out; omega
        obtain ⟨b, o, rfl, hb, hcell⟩ := HTA.out k hx
        have hsn := join_snoc hx
        have hj1 := joinF_len (la.take k)
        rw [List.length_take] at hj1
        have hj2 : (joinF (la.take k)).length ≤ 200 := by omega
        clear hj1
        obtain ⟨x, hxx⟩ : ∃ x, x = la[k] := ⟨_, rfl⟩
        rw [← hxx] at hcell hsn
        clear hxx
        have hsx := fun W => sign_any x W
        have hel := (enc_len x).2
        obtain ⟨E, hE⟩ : ∃ E, E = enc x := ⟨_, rfl⟩
        rw [← hE] at hsn hsx hel
        clear hE
        obtain ⟨A, hA⟩ : ∃ A, A = joinF (la.take k) := ⟨_, rfl⟩
        rw [← hA] at hsn hj2 ⊢
        clear hA
        have HSN := Lib.hid hsn; clear hsn
        have HSX := Lib.hid hsx; clear hsx
        go_wp2_with fail
        refine (HSX.out _).mono ?_
        rintro e w6 ⟨rfl, rfl⟩
        go_wp2_with fail
        go_roundw
        case rel => exact ⟨k + 1, by omega, by simp, by rw [HSN.out, bs_app], trivial⟩
        case measure => simp [intOf]; omega
      · obtain rfl : La = k := by omega
        rw [List.take_of_length_le (by have := HLa.out; omega)]
        have hA1 : (joinF la).length ≤ 200 := by omega
        obtain ⟨A, hA⟩ : ∃ A, A = joinF la := ⟨_, rfl⟩
        rw [← hA] at HD1 HD2 hA1 ⊢
        clear hA
        clear hja
        go_wp2_with fail
        go_loopw [12, 13] (fun sv iv wr => ∃ k : Nat, k ≤ Lb ∧ iv = .int .i64 k ∧ sv = .string (bs (joinF (lb.take k))) ∧ w2 = wr) (fun _ i _ => Lb - (intOf i).toNat)
        case atStart => exact ⟨0, by omega, by simp, by simp [joinF, bs], rfl⟩
        case round =>
          obtain ⟨k, hk, rfl, rfl, rfl⟩ := hrel
          by_cases hlt : k < Lb
          · have hx : k < lb.length := by have := HLb.out; omega
            obtain ⟨b, o, rfl, hb, hcell⟩ := HTB.out k hx
            have hsn := join_snoc hx
            have hj1 := joinF_len (lb.take k)
            rw [List.length_take] at hj1
            have hj2 : (joinF (lb.take k)).length ≤ 200 := by omega
            clear hj1
            obtain ⟨x, hxx⟩ : ∃ x, x = lb[k] := ⟨_, rfl⟩
            rw [← hxx] at hcell hsn
            clear hxx
            have hsx := fun W => sign_any x W
            have hel := (enc_len x).2
            obtain ⟨E, hE⟩ : ∃ E, E = enc x := ⟨_, rfl⟩
            rw [← hE] at hsn hsx hel
            clear hE
            obtain ⟨A, hA⟩ : ∃ A, A = joinF (lb.take k) := ⟨_, rfl⟩
            rw [← hA] at hsn hj2 ⊢
            clear hA
            have HSN := Lib.hid hsn; clear hsn
            have HSX := Lib.hid hsx; clear hsx
            go_wp2_with fail
            refine (HSX.out _).mono ?_
            rintro e w6 ⟨rfl, rfl⟩
            go_wp2_with fail
            go_roundw
            case rel => exact ⟨k + 1, by omega, by simp, by rw [HSN.out, bs_app], trivial⟩
            case measure => simp [intOf]; omega
          · obtain rfl : Lb = k := by omega
            rw [List.take_of_length_le (by have := HLb.out; omega)]
            have hB1 : (joinF lb).length ≤ 200 := by omega
            obtain ⟨B, hB⟩ : ∃ B, B = joinF lb := ⟨_, rfl⟩
            rw [← hB] at HD1 HD2 hB1 ⊢
            clear hB hjb
            obtain ⟨u1, hu1⟩ : ∃ u, u = bs (A ++ C) := ⟨_, rfl⟩
            obtain ⟨u2, hu2⟩ : ∃ u, u = bs (A ++ C ++ B) := ⟨_, rfl⟩
            obtain ⟨u3, hu3⟩ : ∃ u, u = bs (A ++ B) := ⟨_, rfl⟩
            have e1 : bs A ++ bs C = u1 := by rw [hu1]; exact bs_app A C
            have e2 : u1 ++ bs B = u2 := by rw [hu1, hu2]; exact bs_app (A ++ C) B
            have e3 : bs A ++ bs B = u3 := by rw [hu3]; exact bs_app A B
            have hl1 : u1.size ≤ 300 := by rw [hu1, bs_size, List.length_append]; omega
            rw [← hu2] at HD1
            rw [← hu3] at HD2
            clear hu1 hu2 hu3
            have hbe : ((bs O).toList == (bs O).toList) = true := by simp
            go_wp2_with fail
            refine (HSN.out _).mono ?_
            rintro e w6 ⟨rfl, rfl⟩
            go_wp2_with fail
            refine (HD1.out _ HB2.out).mono ?_
            rintro e w7 ⟨rfl, hb7⟩
            have HB7 := Lib.hid (HB2.out.trans (hb7.mono HB2.out.size)); clear hb7
            go_wp2_with fail
            refine (HD2.out _ HB7.out).mono ?_
            rintro e w8 ⟨rfl, hb8⟩
            have HB8 := Lib.hid (HB7.out.trans (hb8.mono HB7.out.size)); clear hb8
            go_wp2_with fail
            go_ret
            exact ⟨ret1_bool (by simp), HB8.out⟩
  all_goals
    clear hgone hE
    try have q3 : (K != 3) = true := by simp [h3]
    go_enter Tryd.func9, Tryd.ntmps9
    go_wp2_with fail
    refine (HSM.out).mono ?_
    rintro e w1 ⟨rfl, hb1⟩
    have HB1 := Lib.hid hb1; clear hb1
    go_wp2_with fail
    refine (HMA.out _).mono ?_
    rintro e w2 ⟨rfl, hb2⟩
    have HB2 := Lib.hid (HB1.out.trans (hb2.mono HB1.out.size)); clear hb2
    go_wp2_with fail
    go_ret
    exact ⟨rfl, HB2.out⟩
end Go.Proofs.YtledmlgebfbhaaaDoor
