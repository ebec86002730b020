/- The walk of AuthorityUser. -/
import Derived.Test.YtjgenpooedkfmaaDoorGHlwA
import Derived.Test.YtjgenpooedkfmaaDoorMLaw15A
import Derived.Test.YtjgenpooedkfmaaDoorGReg
namespace Go.Proofs.YtjgenpooedkfmaaDoor
open Go.RowKit
set_option maxRecDepth 10000

theorem ath_c13 (a : Ath) (h8 : a.host.six.length = 8) : (aCells a)[13]? = some (.bool a.hasPort) := by
  obtain ⟨u, p, ⟨k, nm, f, six⟩, hp, po⟩ := a
  simp only at h8
  obtain ⟨b1, b2, b3, b4, b5, b6, b7, b8, rfl⟩ := eight h8
  rfl
theorem ath_c14 (a : Ath) (h8 : a.host.six.length = 8) : (aCells a)[14]? = some (.int .i64 a.port) := by
  obtain ⟨u, p, ⟨k, nm, f, six⟩, hp, po⟩ := a
  simp only at h8
  obtain ⟨b1, b2, b3, b4, b5, b6, b7, b8, rfl⟩ := eight h8
  rfl
theorem ath_cH (a : Ath) : ∀ j v, (hstCells a.host)[j]? = some v → (aCells a)[2 + j]? = some v := by
  intro j v h
  have hj := (List.getElem?_eq_some_iff.1 h).1
  rw [List.getElem?_toArray]
  unfold athCells
  rw [List.append_assoc, List.getElem?_append_right (by simp), List.getElem?_append_left (by simp; omega)]
  simpa using h
/-- who is named does not matter to the rest -/
theorem user_is (sch us ps rs : Bytes) (hu : (58 : UInt8) ∉ us) (hr : (64 : UInt8) ∉ rs) :
    (rs = [] ∧ authF sch (us ++ [58] ++ ps ++ [64] ++ rs) = none ∧ authF sch (us ++ [64] ++ rs) = none) ∨
    (rs ≠ [] ∧ authF sch (us ++ [58] ++ ps ++ [64] ++ rs) = none ∧ authF sch (us ++ [64] ++ rs) = none ∧ authF sch rs = none) ∨
    (rs ≠ [] ∧ ∃ G hp po, G.six.length = 8 ∧ authF sch (us ++ [58] ++ ps ++ [64] ++ rs) = some ⟨pcB 5 us, pcB 5 ps, G, hp, po⟩ ∧ authF sch (us ++ [64] ++ rs) = some ⟨pcB 5 us, [], G, hp, po⟩ ∧ authF sch rs = some ⟨[], [], G, hp, po⟩) := by
  have h1 := auth_pass (sch := sch) (pass := ps) hu hr
  have h2 := auth_user (sch := sch) hu hr
  have h3 := auth_rest (sch := sch) hr
  by_cases hn : rs = []
  · rw [if_pos hn] at h1 h2
    exact .inl ⟨hn, h1, h2⟩
  · rw [if_neg hn] at h1 h2
    rw [rest_who] at h1 h2
    have h4 := rest_who sch rs [] []
    cases hT : restF sch rs [] [] with
    | none =>
      rw [hT] at h1 h2 h3
      exact .inr (.inl ⟨hn, h1, h2, h3⟩)
    | some t =>
      have h8 := @ath_six sch rs
      rw [h3, hT] at h8
      rw [hT] at h1 h2 h3 h4
      simp only [Option.map_some, Option.some.injEq] at h4
      refine .inr (.inr ⟨hn, t.host, t.hasPort, t.port, h8, h1, h2, ?_⟩)
      rw [h3]
      exact congrArg some h4
set_option maxHeartbeats 40000000 in
theorem authorityUser_walk (c us ps rs : ByteArray) (w : World) (_ : c.size ≤ maxLen) (_ : us.size ≤ maxLen) (_ : ps.size ≤ maxLen) (_ : rs.size ≤ maxLen) (hE : Env w) :
    Calls Tryd.prog 3 #[.string c, .string us, .string ps, .string rs] w fun e w' => e = .returned (.bool true) ∧ Below w.heap.size w w' := by
  have HSM := Lib.hid (small15_any w hE)
  have hcs : 50 < c.size ∨ (c.size ≤ 50 ∧ 100 < us.size) ∨ (c.size ≤ 50 ∧ us.size ≤ 100 ∧ 100 < ps.size) ∨ (c.size ≤ 50 ∧ us.size ≤ 100 ∧ ps.size ≤ 100 ∧ 200 < rs.size) ∨ (c.size ≤ 50 ∧ us.size ≤ 100 ∧ ps.size ≤ 100 ∧ rs.size ≤ 200) := by omega
  rcases hcs with h1 | ⟨h1, h2⟩ | ⟨h1, h2, h3⟩ | ⟨h1, h2, h3, h4⟩ | ⟨h1, h2, h3, h4⟩
  case inr.inr.inr.inr =>
    have hus : us.size = (ls us).length := (ls_length us).symm
    have hrs : rs.size = (ls rs).length := (ls_length rs).symm
    have hui := fun hu hr => user_is (ls c) (ls us) (ls ps) (ls rs) hu hr
    obtain ⟨v1, hv1⟩ : ∃ v, v = us ++ (⟨#[58]⟩ : ByteArray) := ⟨_, rfl⟩
    obtain ⟨v2, hv2⟩ : ∃ v, v = v1 ++ ps := ⟨_, rfl⟩
    obtain ⟨v3, hv3⟩ : ∃ v, v = v2 ++ (⟨#[64]⟩ : ByteArray) := ⟨_, rfl⟩
    obtain ⟨v4, hv4⟩ : ∃ v, v = v3 ++ rs := ⟨_, rfl⟩
    obtain ⟨y1, hy1⟩ : ∃ v, v = us ++ (⟨#[64]⟩ : ByteArray) := ⟨_, rfl⟩
    obtain ⟨y2, hy2⟩ : ∃ v, v = y1 ++ rs := ⟨_, rfl⟩
    have one58 : (⟨#[58]⟩ : ByteArray).size = 1 := rfl
    have one64 : (⟨#[64]⟩ : ByteArray).size = 1 := rfl
    have z1 : v1.size ≤ 101 := by rw [hv1, ByteArray.size_append]; omega
    have z2 : v2.size ≤ 201 := by rw [hv2, ByteArray.size_append]; omega
    have z3 : v3.size ≤ 202 := by rw [hv3, ByteArray.size_append]; omega
    have z4 : v4.size ≤ 402 := by rw [hv4, ByteArray.size_append]; omega
    have z5 : y1.size ≤ 101 := by rw [hy1, ByteArray.size_append]; omega
    have z6 : y2.size ≤ 301 := by rw [hy2, ByteArray.size_append]; omega
    have lv4 : ls v4 = ls us ++ [58] ++ ls ps ++ [64] ++ ls rs := by
      have e : v4 = bs (ls us ++ [58] ++ ls ps ++ [64] ++ ls rs) := by
        rw [hv4, hv3, hv2, hv1, show (⟨#[58]⟩ : ByteArray) = bs [58] from rfl, show (⟨#[64]⟩ : ByteArray) = bs [64] from rfl]
        rw [← bs_app, ← bs_app, ← bs_app, ← bs_app, bs_ls, bs_ls, bs_ls]
      rw [e, ls_bs]
    have ly2 : ls y2 = ls us ++ [64] ++ ls rs := by
      have e : y2 = bs (ls us ++ [64] ++ ls rs) := by
        rw [hy2, hy1, show (⟨#[64]⟩ : ByteArray) = bs [64] from rfl]
        rw [← bs_app, ← bs_app, bs_ls, bs_ls]
      rw [e, ls_bs]
    rw [← lv4, ← ly2] at hui
    have hp1 := fun (W : World) (hW : Below w.heap.size w W) => ap_small c v4 (by omega) hE hW
    have hp2 := fun (W : World) (hW : Below w.heap.size w W) => ap_small c y2 (by omega) hE hW
    have hp3 := fun (W : World) (hW : Below w.heap.size w W) => ap_small c rs (by omega) hE hW
    have hre : rs.toList = [] ↔ ls rs = [] := by rw [toList_ls]
    have hbu : ∀ k (hk : k < us.size) (hk2 : k < (ls us).length), ((us[k]'hk).toNat : Int) = b2 (ls us)[k] := fun k hk hk2 => str_at (bs_ls us).symm hk hk2
    have hbr : ∀ k (hk : k < rs.size) (hk2 : k < (ls rs).length), ((rs[k]'hk).toNat : Int) = b2 (ls rs)[k] := fun k hk hk2 => str_at (bs_ls rs).symm hk hk2
    have heu := fun W => pencode_any 5 (ls us) W (by rw [ls_length]; omega)
    have hep := fun W => pencode_any 5 (ls ps) W (by rw [ls_length]; omega)
    rw [bs_ls] at heu hep
    have e1 := hv1.symm
    have e2 := hv2.symm
    have e3 := hv3.symm
    have e4 := hv4.symm
    have f1 := hy1.symm
    have f2 := hy2.symm
    clear hv1 hv2 hv3 hv4 hy1 hy2 lv4 ly2 hE one58 one64
    have h81 := @ath_six (ls c) (ls v4)
    have h82 := @ath_six (ls c) (ls y2)
    have h83 := @ath_six (ls c) (ls rs)
    generalize authF (ls c) (ls v4) = A1 at hui hp1 h81
    generalize authF (ls c) (ls y2) = A2 at hui hp2 h82
    generalize authF (ls c) (ls rs) = A3 at hui hp3 h83
    obtain ⟨U, hU⟩ : ∃ U, U = bs (pcB 5 (ls us)) := ⟨_, rfl⟩
    obtain ⟨PP, hPP⟩ : ∃ PP, PP = bs (pcB 5 (ls ps)) := ⟨_, rfl⟩
    have HEU := Lib.hid (show ∀ W, Calls Tryd.prog 7 #[.string us, .int .i64 5] W fun e w' => e = .returned (.string U) ∧ Below W.heap.size W w' from by rw [hU]; exact heu)
    have HEP := Lib.hid (show ∀ W, Calls Tryd.prog 7 #[.string ps, .int .i64 5] W fun e w' => e = .returned (.string PP) ∧ Below W.heap.size W w' from by rw [hPP]; exact hep)
    have HU := Lib.hid hU
    have HPP := Lib.hid hPP
    clear heu hep hU hPP
    generalize pcB 5 (ls us) = cu at *
    generalize pcB 5 (ls ps) = cp at *
    generalize ls us = lu at *
    generalize ls rs = lr at *
    have HUI := Lib.hid hui; clear hui
    have HP1 := Lib.hid hp1; clear hp1
    have HP2 := Lib.hid hp2; clear hp2
    have HP3 := Lib.hid hp3; clear hp3
    have HRE := Lib.hid hre; clear hre
    have HBU := Lib.hid hbu; clear hbu
    have HBR := Lib.hid hbr; clear hbr
    have HLU := Lib.hid hus; clear hus
    have HLR := Lib.hid hrs; clear hrs
    obtain ⟨N, hN⟩ : ∃ N, N = us.size := ⟨_, rfl⟩
    obtain ⟨M, hM⟩ : ∃ M, M = rs.size := ⟨_, rfl⟩
    have hsN : us.size = N := hN.symm
    have hsM : rs.size = M := hM.symm
    have hNm : N ≤ 100 := by omega
    have hMm : M ≤ 200 := by omega
    clear hN hM
    go_enter Tryd.func3, Tryd.ntmps3
    go_wp2_with fail
    refine (HSM.out).mono ?_
    rintro e w1 ⟨rfl, hb1⟩
    have HB1 := Lib.hid hb1; clear hb1
    go_wp2_with fail
    go_loopw [10] (fun iv wr => ∃ k : Nat, k ≤ N ∧ iv = .int .i64 k ∧ Hid (∀ j (hj : j < lu.length), j < k → b2 lu[j] ≠ 58) ∧ w1 = wr) (fun i _ => N - (intOf i).toNat)
    case atStart => exact ⟨0, by omega, by simp, (fun j hj h => absurd h (Nat.not_lt_zero j)), rfl⟩
    case round =>
      obtain ⟨k, hk, rfl, hall, rfl⟩ := hrel
      by_cases hlt : k < N
      · have hku : k < us.size := by omega
        have hkl : k < lu.length := by have := HLU.out; omega
        have hx := HBU.out k hku hkl
        have hnext : b2 lu[k] ≠ 58 → ∀ j (hj : j < lu.length), j < k + 1 → b2 lu[j] ≠ 58 := fun h j hj h1 => by
          rcases Nat.lt_or_ge j k with h2 | h2
          · exact hall.out j hj h2
          · obtain rfl : j = k := by omega
            exact h
        have HN := Lib.hid hnext; clear hnext hall
        obtain ⟨X, hX⟩ : ∃ X, X = b2 lu[k] := ⟨_, rfl⟩
        rw [← hX] at hx HN
        clear hX
        by_cases h58 : X = 58
        · subst h58
          clear HN
          go_wp2_with fail
          go_ret
          exact ⟨rfl, HB1.out⟩
        · have HS := Lib.hid (HN.out h58); clear HN
          have q58 : (X == 58) = false := by simpa using h58
          go_wp2_with fail
          go_roundw
          case rel => exact ⟨k + 1, by omega, by simp, HS.out, by trivial⟩
          case measure => simp [intOf]; omega
      · obtain rfl : k = N := by omega
        have HNU := Lib.hid (show (58 : UInt8) ∉ lu from fun hm => by
          obtain ⟨j, hj, he⟩ := List.getElem_of_mem hm
          exact hall.out j hj (by have := HLU.out; omega) (b2_58.mpr he))
        clear hall HBU
        go_wp2_with fail
        obtain ⟨w2, hw2⟩ : ∃ w2, w2 = w1 := ⟨_, rfl⟩
        rw [← hw2] at HB1 ⊢
        clear hw2
        go_loopw [11] (fun iv wr => ∃ k : Nat, k ≤ M ∧ iv = .int .i64 k ∧ Hid (∀ j (hj : j < lr.length), j < k → b2 lr[j] ≠ 64) ∧ w2 = wr) (fun i _ => M - (intOf i).toNat)
        case atStart => exact ⟨0, by omega, by simp, (fun j hj h => absurd h (Nat.not_lt_zero j)), rfl⟩
        case round =>
          obtain ⟨j, hj, rfl, hall, rfl⟩ := hrel
          by_cases hlt2 : j < M
          · have hku : j < rs.size := by omega
            have hkl : j < lr.length := by have := HLR.out; omega
            have hx := HBR.out j hku hkl
            have hnext : b2 lr[j] ≠ 64 → ∀ i (hi : i < lr.length), i < j + 1 → b2 lr[i] ≠ 64 := fun h i hi h1 => by
              rcases Nat.lt_or_ge i j with h2 | h2
              · exact hall.out i hi h2
              · obtain rfl : i = j := by omega
                exact h
            have HN := Lib.hid hnext; clear hnext hall
            obtain ⟨X, hX⟩ : ∃ X, X = b2 lr[j] := ⟨_, rfl⟩
            rw [← hX] at hx HN
            clear hX
            by_cases h64 : X = 64
            · subst h64
              clear HN
              go_wp2_with fail
              go_ret
              exact ⟨rfl, HB1.out⟩
            · have HS := Lib.hid (HN.out h64); clear HN
              have q64 : (X == 64) = false := by simpa using h64
              go_wp2_with fail
              go_roundw
              case rel => exact ⟨j + 1, by omega, by simp, HS.out, by trivial⟩
              case measure => simp [intOf]; omega
          · obtain rfl : j = M := by omega
            have hnr : (64 : UInt8) ∉ lr := fun hm => by
              obtain ⟨i, hi, he⟩ := List.getElem_of_mem hm
              exact hall.out i hi (by have := HLR.out; omega) (b2_64.mpr he)
            have hui := HUI.out HNU.out hnr
            clear hall HBR hnr HUI HNU
            obtain ⟨X1, hX1⟩ : ∃ X, X = A1.getD A0 := ⟨_, rfl⟩
            obtain ⟨X2, hX2⟩ : ∃ X, X = A2.getD A0 := ⟨_, rfl⟩
            obtain ⟨X3, hX3⟩ : ∃ X, X = A3.getD A0 := ⟨_, rfl⟩
            obtain ⟨q1, hq1⟩ : ∃ q, q = A1.isSome := ⟨_, rfl⟩
            obtain ⟨q2, hq2⟩ : ∃ q, q = A2.isSome := ⟨_, rfl⟩
            obtain ⟨q3, hq3⟩ : ∃ q, q = A3.isSome := ⟨_, rfl⟩
            have HQ1 := Lib.hid (show ∀ W, Below w.heap.size w W → Calls Tryd.prog 6 #[.string c, .string v4] W fun e w' => e = .returned (.tuple #[.agg (aCells X1), .bool q1]) ∧ Below W.heap.size W w' from by rw [hX1, hq1]; exact HP1.out)
            have HQ2 := Lib.hid (show ∀ W, Below w.heap.size w W → Calls Tryd.prog 6 #[.string c, .string y2] W fun e w' => e = .returned (.tuple #[.agg (aCells X2), .bool q2]) ∧ Below W.heap.size W w' from by rw [hX2, hq2]; exact HP2.out)
            have HQ3 := Lib.hid (show ∀ W, Below w.heap.size w W → Calls Tryd.prog 6 #[.string c, .string rs] W fun e w' => e = .returned (.tuple #[.agg (aCells X3), .bool q3]) ∧ Below W.heap.size W w' from by rw [hX3, hq3]; exact HP3.out)
            rw [← hX1] at h81
            rw [← hX2] at h82
            rw [← hX3] at h83
            have H81 := Lib.hid h81
            have H82 := Lib.hid h82
            have H83 := Lib.hid h83
            have HUI := Lib.hid hui
            have HX := Lib.hid (And.intro hX1 (And.intro hX2 (And.intro hX3 (And.intro hq1 (And.intro hq2 hq3)))))
            clear hX1 hX2 hX3 hq1 hq2 hq3 HP1 HP2 HP3 h81 h82 h83 hui hlt2 hlt
            go_upto_region 15 with (first
              | (go_at_call 6; refine (HQ1.out _ HB1.out).mono ?_; rintro e w4 ⟨rfl, hb⟩; have HC4 := Lib.hid hb; clear hb)
              | (refine alloc_to rfl 29 rfl _ _ (allA _) ?_)
              | (refine storeA rfl (.tmp 12) (.tmp 71) rfl X1 H81.out rfl rfl rfl ?_; intro w5 hh hb; have K12 := Lib.hid hh; have HB5 := Lib.hid (stp HB1.out (stp HC4.out hb)); clear hh hb HC4)
              | fail)
            go_upto_region 16 with (first
              | (go_at_call 6; refine (HQ2.out _ HB5.out).mono ?_; rintro e w6 ⟨rfl, hb⟩; have HC6 := Lib.hid hb; clear hb)
              | (refine alloc_to rfl 29 rfl _ _ (allA _) ?_)
              | (refine storeA rfl (.tmp 14) (.tmp 80) rfl X2 H82.out rfl rfl rfl ?_; intro w7 hh hb; have K14 := Lib.hid hh; have K127 := Lib.hid (K12.out.keep (stp HC6.out hb)); have HB7 := Lib.hid (stp HB5.out (stp HC6.out hb)); clear hh hb HC6)
              | fail)
            clear K12
            go_upto_region 17 with (first
              | (go_at_call 6; refine (HQ3.out _ HB7.out).mono ?_; rintro e w8 ⟨rfl, hb⟩; have HC8 := Lib.hid hb; clear hb)
              | (refine alloc_to rfl 29 rfl _ _ (allA _) ?_)
              | (refine storeA rfl (.tmp 16) (.tmp 86) rfl X3 H83.out rfl rfl rfl ?_; intro w10 hh hb; have K16 := Lib.hid hh; have K1210 := Lib.hid (K127.out.keep (stp HC8.out hb)); have K1410 := Lib.hid (K14.out.keep (stp HC8.out hb)); have HB10 := Lib.hid (stp HB7.out (stp HC8.out hb)); clear hh hb HC8)
              | fail)
            clear K127 K14 HQ1 HQ2 HQ3 e1 e2 e3 e4 f1 f2 z1 z2 z3 z4 z5 z6
            have hui := HUI.out
            have hX := HX.out
            obtain ⟨hX1, hX2, hX3, hq1, hq2, hq3⟩ := hX
            rcases hui with ⟨u1, u2, u3⟩ | ⟨u1, u2, u3, u4⟩ | ⟨u1, G, hp, po, g8, u2, u3, u4⟩
            · rw [u2] at hq1
              rw [u3] at hq2
              have hq1' : q1 = false := hq1
              have hq2' : q2 = false := hq2
              subst hq1'; subst hq2'
              have he := HRE.out.mpr u1
              have he1 : rs.toList.isEmpty = true := by rw [he]; rfl
              clear hX1 hX2 hX3 hq1 hq2 hq3 HX HUI u1 u2 u3
              go_wp2_with fail
              go_ret
              exact ⟨ret1_bool (by simp), HB10.out⟩
            · rw [u2] at hq1
              rw [u3] at hq2
              rw [u4] at hq3
              have hq1' : q1 = false := hq1
              have hq2' : q2 = false := hq2
              have hq3' : q3 = false := hq3
              subst hq1'; subst hq2'; subst hq3'
              have he : ¬ rs.toList = [] := fun h => u1 (HRE.out.mp h)
              have he1 : rs.toList.isEmpty = false := by simpa using he
              clear hX1 hX2 hX3 hq1 hq2 hq3 HX HUI u1 u2 u3 u4
              go_wp2_with fail
              go_ret
              exact ⟨ret1_bool (by simp), HB10.out⟩
            · rw [u2] at hq1 hX1
              rw [u3] at hq2 hX2
              rw [u4] at hq3 hX3
              have hq1' : q1 = true := hq1
              have hq2' : q2 = true := hq2
              have hq3' : q3 = true := hq3
              have hX1' : X1 = ⟨cu, cp, G, hp, po⟩ := hX1
              have hX2' : X2 = ⟨cu, [], G, hp, po⟩ := hX2
              have hX3' : X3 = ⟨[], [], G, hp, po⟩ := hX3
              clear hX1 hX2 hX3 hq1 hq2 hq3 HX HUI u2 u3 u4 H81 H82 H83
              subst hq1'; subst hq2'; subst hq3'; subst hX1'; subst hX2'; subst hX3'
              have he : ¬ rs.toList = [] := fun h => u1 (HRE.out.mp h)
              have he1 : rs.toList.isEmpty = false := by simpa using he
              have G8 := Lib.hid g8
              have HI := Lib.hid (show (Tryd.prog.info? 27).map (·.size) = some (hstCells G).length by rw [host_info]; simp [hstCells, g8])
              have CU := Lib.hid (show (aCells ⟨cu, cp, G, hp, po⟩)[0]? = some (.string U) by rw [HU.out]; rfl)
              have CV := Lib.hid (show (aCells ⟨cu, [], G, hp, po⟩)[0]? = some (.string U) by rw [HU.out]; rfl)
              have CP := Lib.hid (show (aCells ⟨cu, cp, G, hp, po⟩)[1]? = some (.string PP) by rw [HPP.out]; rfl)
              clear g8 u1 HU HPP HRE
              go_upto_region 22 with (first
                | (go_at_call 7; refine (HEU.out _).mono ?_; rintro e w9 ⟨rfl, hb⟩; have K12 := Lib.hid (K1210.out.keep hb); have K14 := Lib.hid (K1410.out.keep hb); have K16' := Lib.hid (K16.out.keep hb); have HB9 := Lib.hid (stp HB10.out hb); clear hb)
                | fail)
              clear K16
              have K16 := Lib.hid K16'.out
              clear K16' K1210 K1410
              refine wp_region_held_drew (S := fun W => Below w9.heap.size w9 W) (by kernel_rfl) (by first | exact bz_drew (bz_refl _) | assumption | exact bz_step (by assumption) (by assumption) | exact bz_drew (by assumption)) (fun hHeld => ?_)
              refine tk 0 (v := ?_) rfl (by kernel_rfl) (by kernel_rfl) (by kernel_rfl) (fun _ _ _ h => h) (by rfl) (by assumption) (fun wS hSw => ?_) ?_
              rotate_left
              · (try dsimp only at hSw); go_simp; first | done | with_reducible rfl   -- move
              try simp only [Act.put, List.setIfInBounds_toArray, List.set_cons_zero, List.set_cons_succ]
              refine tk 1 (v := ?_) rfl (by kernel_rfl) (by kernel_rfl) (by kernel_rfl) (fun _ _ _ h => h) (by rfl) (by assumption) (fun wS hSw => ?_) ?_
              rotate_left
              · (try dsimp only at hSw); go_simp; first | done | with_reducible rfl   -- move
              try simp only [Act.put, List.setIfInBounds_toArray, List.set_cons_zero, List.set_cons_succ]
              refine tk 2 (v := ?_) rfl (by kernel_rfl) (by kernel_rfl) (by kernel_rfl) (fun _ _ _ h => h) (by rfl) (by assumption) (fun wS hSw => ?_) ?_
              rotate_left
              · (try dsimp only at hSw); go_simp; first | done | with_reducible rfl   -- fieldAddr
              try simp only [Act.put, List.setIfInBounds_toArray, List.set_cons_zero, List.set_cons_succ]
              refine tk 3 (v := ?_) rfl (by kernel_rfl) (by kernel_rfl) (by kernel_rfl) (fun _ _ _ h => h) (by rfl) (by assumption) (fun wS hSw => ?_) ?_
              rotate_left
              · (try dsimp only at hSw)   -- load
                refine load1_exec 9 (.tmp 126) ?_ w4.heap.size 0 (.string U) _ Tryd.underlying9 rfl ?_ ?_
                · rfl
                · rfl
                · exact (K12.out.keep hSw).cell_is CU.out
              try simp only [Act.put, List.setIfInBounds_toArray, List.set_cons_zero, List.set_cons_succ]
              refine tk 4 (v := ?_) rfl (by kernel_rfl) (by kernel_rfl) (by kernel_rfl) (fun _ _ _ h => h) (by rfl) (by assumption) (fun wS hSw => ?_) ?_
              rotate_left
              · (try dsimp only at hSw); go_simp; first | done | with_reducible rfl   -- move
              try simp only [Act.put, List.setIfInBounds_toArray, List.set_cons_zero, List.set_cons_succ]
              refine tk 5 (v := ?_) rfl (by kernel_rfl) (by kernel_rfl) (by kernel_rfl) (fun _ _ _ h => h) (by rfl) (by assumption) (fun wS hSw => ?_) ?_
              rotate_left
              · (try dsimp only at hSw); go_simp; first | done | with_reducible rfl   -- binOp
              try simp only [Act.put, List.setIfInBounds_toArray, List.set_cons_zero, List.set_cons_succ]
              refine tk 6 (v := ?_) rfl (by kernel_rfl) (by kernel_rfl) (by kernel_rfl) (fun _ _ _ h => h) (by rfl) (by assumption) (fun wS hSw => ?_) ?_
              rotate_left
              · (try dsimp only at hSw); go_simp; first | done | with_reducible rfl   -- pick
              try simp only [Act.put, List.setIfInBounds_toArray, List.set_cons_zero, List.set_cons_succ]
              refine tk 7 (v := ?_) rfl (by kernel_rfl) (by kernel_rfl) (by kernel_rfl) (fun _ _ _ h => h) (by rfl) (by assumption) (fun wS hSw => ?_) ?_
              rotate_left
              · (try dsimp only at hSw); go_simp; first | done | with_reducible rfl   -- move
              try simp only [Act.put, List.setIfInBounds_toArray, List.set_cons_zero, List.set_cons_succ]
              refine tk 8 (v := ?_) rfl (by kernel_rfl) (by kernel_rfl) (by kernel_rfl) (fun _ _ _ h => h) (by rfl) (by assumption) (fun wS hSw => ?_) ?_
              rotate_left
              · (try dsimp only at hSw); go_simp; first | done | with_reducible rfl   -- fieldAddr
              try simp only [Act.put, List.setIfInBounds_toArray, List.set_cons_zero, List.set_cons_succ]
              refine tk 9 (v := ?_) rfl (by kernel_rfl) (by kernel_rfl) (by kernel_rfl) (fun _ _ _ h => h) (by rfl) (by assumption) (fun wS hSw => ?_) ?_
              rotate_left
              · (try dsimp only at hSw)   -- load
                refine load1_exec 9 (.tmp 132) ?_ w6.heap.size 0 (.string U) _ Tryd.underlying9 rfl ?_ ?_
                · rfl
                · rfl
                · exact (K14.out.keep hSw).cell_is CV.out
              try simp only [Act.put, List.setIfInBounds_toArray, List.set_cons_zero, List.set_cons_succ]
              refine tk 10 (v := ?_) rfl (by kernel_rfl) (by kernel_rfl) (by kernel_rfl) (fun _ _ _ h => h) (by rfl) (by assumption) (fun wS hSw => ?_) ?_
              rotate_left
              · (try dsimp only at hSw); go_simp; first | done | with_reducible rfl   -- move
              try simp only [Act.put, List.setIfInBounds_toArray, List.set_cons_zero, List.set_cons_succ]
              refine tk 11 (v := ?_) rfl (by kernel_rfl) (by kernel_rfl) (by kernel_rfl) (fun _ _ _ h => h) (by rfl) (by assumption) (fun wS hSw => ?_) ?_
              rotate_left
              · (try dsimp only at hSw); go_simp; first | done | with_reducible rfl   -- binOp
              try simp only [Act.put, List.setIfInBounds_toArray, List.set_cons_zero, List.set_cons_succ]
              refine tk 12 (v := ?_) rfl (by kernel_rfl) (by kernel_rfl) (by kernel_rfl) (fun _ _ _ h => h) (by rfl) (by assumption) (fun wS hSw => ?_) ?_
              rotate_left
              · (try dsimp only at hSw); go_simp; first | done | with_reducible rfl   -- pick
              try simp only [Act.put, List.setIfInBounds_toArray, List.set_cons_zero, List.set_cons_succ]
              refine tk 13 (v := ?_) rfl (by kernel_rfl) (by kernel_rfl) (by kernel_rfl) (fun _ _ _ h => h) (by rfl) (by assumption) (fun wS hSw => ?_) ?_
              rotate_left
              · (try dsimp only at hSw); go_simp; first | done | with_reducible rfl   -- move
              try simp only [Act.put, List.setIfInBounds_toArray, List.set_cons_zero, List.set_cons_succ]
              refine tk 14 (v := ?_) rfl (by kernel_rfl) (by kernel_rfl) (by kernel_rfl) (fun _ _ _ h => h) (by rfl) (by assumption) (fun wS hSw => ?_) ?_
              rotate_left
              · (try dsimp only at hSw); go_simp; first | done | with_reducible rfl   -- fieldAddr
              try simp only [Act.put, List.setIfInBounds_toArray, List.set_cons_zero, List.set_cons_succ]
              refine tk 15 (v := ?_) rfl (by kernel_rfl) (by kernel_rfl) (by kernel_rfl) (fun _ _ _ h => h) (by rfl) (by assumption) (fun wS hSw => ?_) ?_
              rotate_left
              · (try dsimp only at hSw)   -- load
                refine load1_exec 9 (.tmp 138) ?_ w4.heap.size 1 (.string PP) _ Tryd.underlying9 rfl ?_ ?_
                · rfl
                · rfl
                · exact (K12.out.keep hSw).cell_is CP.out
              try simp only [Act.put, List.setIfInBounds_toArray, List.set_cons_zero, List.set_cons_succ]
              refine tk 16 (v := ?_) rfl (by kernel_rfl) (by kernel_rfl) (by kernel_rfl) (fun _ _ _ h => h) (by rfl) (by assumption) (fun wS hSw => ?_) ?_
              rotate_left
              · (try dsimp only at hSw); go_simp; first | done | with_reducible rfl   -- move
              try simp only [Act.put, List.setIfInBounds_toArray, List.set_cons_zero, List.set_cons_succ]
              refine rn 17 (by kernel_rfl) rfl (by rfl) (fun K hK => ?_)
              go_simp   -- 17: call of tamis/percent.Encode
              refine (HEP.out _).mono ?_
              rintro e x1 ⟨rfl, hb⟩
              have hB1 : Below w9.heap.size w9 x1 := (Below.refl w9.heap.size w9).drew.trans hb
              clear hb
              dsimp only
              refine hK.out _ _ ?_ (fun hHeld => ?_)
              · first | exact bz_drew (bz_refl _) | assumption | exact bz_step (by assumption) (by assumption) | exact bz_drew (by assumption)
              clear hK K
              try simp only [Act.put, List.setIfInBounds_toArray, List.set_cons_zero, List.set_cons_succ]
              refine tk 18 (v := ?_) rfl (by kernel_rfl) (by kernel_rfl) (by kernel_rfl) (fun _ _ _ h => h) (by rfl) (by assumption) (fun wS hSw => ?_) ?_
              rotate_left
              · (try dsimp only at hSw); go_simp; first | done | with_reducible rfl   -- binOp
              try simp only [Act.put, List.setIfInBounds_toArray, List.set_cons_zero, List.set_cons_succ]
              refine tk 19 (v := ?_) rfl (by kernel_rfl) (by kernel_rfl) (by kernel_rfl) (fun _ _ _ h => h) (by rfl) (by assumption) (fun wS hSw => ?_) ?_
              rotate_left
              · (try dsimp only at hSw); go_simp; first | done | with_reducible rfl   -- pick
              try simp only [Act.put, List.setIfInBounds_toArray, List.set_cons_zero, List.set_cons_succ]
              refine tk 20 (v := ?_) rfl (by kernel_rfl) (by kernel_rfl) (by kernel_rfl) (fun _ _ _ h => h) (by rfl) (by assumption) (fun wS hSw => ?_) ?_
              rotate_left
              · (try dsimp only at hSw); go_simp; first | done | with_reducible rfl   -- move
              try simp only [Act.put, List.setIfInBounds_toArray, List.set_cons_zero, List.set_cons_succ]
              refine tk 21 (v := ?_) rfl (by kernel_rfl) (by kernel_rfl) (by kernel_rfl) (fun _ _ _ h => h) (by rfl) (by assumption) (fun wS hSw => ?_) ?_
              rotate_left
              · (try dsimp only at hSw); go_simp; first | done | with_reducible rfl   -- fieldAddr
              try simp only [Act.put, List.setIfInBounds_toArray, List.set_cons_zero, List.set_cons_succ]
              refine tk 22 (v := ?_) rfl (by kernel_rfl) (by kernel_rfl) (by kernel_rfl) (fun _ _ _ h => h) (by rfl) (by assumption) (fun wS hSw => ?_) ?_
              rotate_left
              · (try dsimp only at hSw)   -- load
                refine load1_exec 9 (.tmp 145) ?_ w6.heap.size 1 (.string ⟨#[]⟩) _ Tryd.underlying9 rfl ?_ ?_
                · rfl
                · rfl
                · exact (K14.out.keep hSw).cell_is rfl
              try simp only [Act.put, List.setIfInBounds_toArray, List.set_cons_zero, List.set_cons_succ]
              refine tk 23 (v := ?_) rfl (by kernel_rfl) (by kernel_rfl) (by kernel_rfl) (fun _ _ _ h => h) (by rfl) (by assumption) (fun wS hSw => ?_) ?_
              rotate_left
              · (try dsimp only at hSw); go_simp; first | done | with_reducible rfl   -- binOp
              try simp only [Act.put, List.setIfInBounds_toArray, List.set_cons_zero, List.set_cons_succ]
              refine tk 24 (v := ?_) rfl (by kernel_rfl) (by kernel_rfl) (by kernel_rfl) (fun _ _ _ h => h) (by rfl) (by assumption) (fun wS hSw => ?_) ?_
              rotate_left
              · (try dsimp only at hSw); go_simp; first | done | with_reducible rfl   -- pick
              try simp only [Act.put, List.setIfInBounds_toArray, List.set_cons_zero, List.set_cons_succ]
              refine tk 25 (v := ?_) rfl (by kernel_rfl) (by kernel_rfl) (by kernel_rfl) (fun _ _ _ h => h) (by rfl) (by assumption) (fun wS hSw => ?_) ?_
              rotate_left
              · (try dsimp only at hSw); go_simp; first | done | with_reducible rfl   -- move
              try simp only [Act.put, List.setIfInBounds_toArray, List.set_cons_zero, List.set_cons_succ]
              refine tk 26 (v := ?_) rfl (by kernel_rfl) (by kernel_rfl) (by kernel_rfl) (fun _ _ _ h => h) (by rfl) (by assumption) (fun wS hSw => ?_) ?_
              rotate_left
              · (try dsimp only at hSw); go_simp; first | done | with_reducible rfl   -- fieldAddr
              try simp only [Act.put, List.setIfInBounds_toArray, List.set_cons_zero, List.set_cons_succ]
              refine tk 27 (v := ?_) rfl (by kernel_rfl) (by kernel_rfl) (by kernel_rfl) (fun _ _ _ h => h) (by rfl) (by assumption) (fun wS hSw => ?_) ?_
              rotate_left
              · (try dsimp only at hSw)   -- load
                refine load1_exec 9 (.tmp 150) ?_ w8.heap.size 0 (.string ⟨#[]⟩) _ Tryd.underlying9 rfl ?_ ?_
                · rfl
                · rfl
                · exact (K16.out.keep hSw).cell_is rfl
              try simp only [Act.put, List.setIfInBounds_toArray, List.set_cons_zero, List.set_cons_succ]
              refine tk 28 (v := ?_) rfl (by kernel_rfl) (by kernel_rfl) (by kernel_rfl) (fun _ _ _ h => h) (by rfl) (by assumption) (fun wS hSw => ?_) ?_
              rotate_left
              · (try dsimp only at hSw); go_simp; first | done | with_reducible rfl   -- binOp
              try simp only [Act.put, List.setIfInBounds_toArray, List.set_cons_zero, List.set_cons_succ]
              refine tk 29 (v := ?_) rfl (by kernel_rfl) (by kernel_rfl) (by kernel_rfl) (fun _ _ _ h => h) (by rfl) (by assumption) (fun wS hSw => ?_) ?_
              rotate_left
              · (try dsimp only at hSw); go_simp; first | done | with_reducible rfl   -- pick
              try simp only [Act.put, List.setIfInBounds_toArray, List.set_cons_zero, List.set_cons_succ]
              refine tk 30 (v := ?_) rfl (by kernel_rfl) (by kernel_rfl) (by kernel_rfl) (fun _ _ _ h => h) (by rfl) (by assumption) (fun wS hSw => ?_) ?_
              rotate_left
              · (try dsimp only at hSw); go_simp; first | done | with_reducible rfl   -- move
              try simp only [Act.put, List.setIfInBounds_toArray, List.set_cons_zero, List.set_cons_succ]
              refine tk 31 (v := ?_) rfl (by kernel_rfl) (by kernel_rfl) (by kernel_rfl) (fun _ _ _ h => h) (by rfl) (by assumption) (fun wS hSw => ?_) ?_
              rotate_left
              · (try dsimp only at hSw); go_simp; first | done | with_reducible rfl   -- fieldAddr
              try simp only [Act.put, List.setIfInBounds_toArray, List.set_cons_zero, List.set_cons_succ]
              refine tk 32 (v := ?_) rfl (by kernel_rfl) (by kernel_rfl) (by kernel_rfl) (fun _ _ _ h => h) (by rfl) (by assumption) (fun wS hSw => ?_) ?_
              rotate_left
              · (try dsimp only at hSw)   -- load
                refine load1_exec 9 (.tmp 155) ?_ w8.heap.size 1 (.string ⟨#[]⟩) _ Tryd.underlying9 rfl ?_ ?_
                · rfl
                · rfl
                · exact (K16.out.keep hSw).cell_is rfl
              try simp only [Act.put, List.setIfInBounds_toArray, List.set_cons_zero, List.set_cons_succ]
              refine tk 33 (v := ?_) rfl (by kernel_rfl) (by kernel_rfl) (by kernel_rfl) (fun _ _ _ h => h) (by rfl) (by assumption) (fun wS hSw => ?_) ?_
              rotate_left
              · (try dsimp only at hSw); go_simp; first | done | with_reducible rfl   -- binOp
              try simp only [Act.put, List.setIfInBounds_toArray, List.set_cons_zero, List.set_cons_succ]
              refine tk 34 (v := ?_) rfl (by kernel_rfl) (by kernel_rfl) (by kernel_rfl) (fun _ _ _ h => h) (by rfl) (by assumption) (fun wS hSw => ?_) ?_
              rotate_left
              · (try dsimp only at hSw); go_simp; first | done | with_reducible rfl   -- pick
              try simp only [Act.put, List.setIfInBounds_toArray, List.set_cons_zero, List.set_cons_succ]
              refine tk 35 (v := ?_) rfl (by kernel_rfl) (by kernel_rfl) (by kernel_rfl) (fun _ _ _ h => h) (by rfl) (by assumption) (fun wS hSw => ?_) ?_
              rotate_left
              · (try dsimp only at hSw); go_simp; first | done | with_reducible rfl   -- move
              try simp only [Act.put, List.setIfInBounds_toArray, List.set_cons_zero, List.set_cons_succ]
              refine tk 36 (v := ?_) rfl (by kernel_rfl) (by kernel_rfl) (by kernel_rfl) (fun _ _ _ h => h) (by rfl) (by assumption) (fun wS hSw => ?_) ?_
              rotate_left
              · (try dsimp only at hSw); go_simp; first | done | with_reducible rfl   -- fieldAddr
              try simp only [Act.put, List.setIfInBounds_toArray, List.set_cons_zero, List.set_cons_succ]
              refine tk 37 (v := ?_) rfl (by kernel_rfl) (by kernel_rfl) (by kernel_rfl) (fun _ _ _ h => h) (by rfl) (by assumption) (fun wS hSw => ?_) ?_
              rotate_left
              · (try dsimp only at hSw)   -- load
                refine loadM_exec 27 (.tmp 160) ?_ w4.heap.size 2 (hstCells G) _ Tryd.underlying27 rfl HI.out ?_ ?_
                · rfl
                · rfl
                · exact (K12.out.keep hSw).range (ath_cH ⟨cu, cp, G, hp, po⟩)
              try simp only [Act.put, List.setIfInBounds_toArray, List.set_cons_zero, List.set_cons_succ]
              refine tk 38 (v := ?_) rfl (by kernel_rfl) (by kernel_rfl) (by kernel_rfl) (fun _ _ _ h => h) (by rfl) (by assumption) (fun wS hSw => ?_) ?_
              rotate_left
              · (try dsimp only at hSw); go_simp; first | done | with_reducible rfl   -- fieldAddr
              try simp only [Act.put, List.setIfInBounds_toArray, List.set_cons_zero, List.set_cons_succ]
              refine tk 39 (v := ?_) rfl (by kernel_rfl) (by kernel_rfl) (by kernel_rfl) (fun _ _ _ h => h) (by rfl) (by assumption) (fun wS hSw => ?_) ?_
              rotate_left
              · (try dsimp only at hSw)   -- load
                refine loadM_exec 27 (.tmp 162) ?_ w8.heap.size 2 (hstCells G) _ Tryd.underlying27 rfl HI.out ?_ ?_
                · rfl
                · rfl
                · exact (K16.out.keep hSw).range (ath_cH ⟨[], [], G, hp, po⟩)
              try simp only [Act.put, List.setIfInBounds_toArray, List.set_cons_zero, List.set_cons_succ]
              refine tk 40 (v := ?_) rfl (by kernel_rfl) (by kernel_rfl) (by kernel_rfl) (fun _ _ _ h => h) (by rfl) (by assumption) (fun wS hSw => ?_) ?_
              rotate_left
              · (try dsimp only at hSw)   -- binOp
                refine eqH_exec (.tmp 161) (.tmp 163) ?_ G G8.out ?_ ?_
                · rfl
                · rfl
                · rfl
              try simp only [Act.put, List.setIfInBounds_toArray, List.set_cons_zero, List.set_cons_succ]
              refine tk 41 (v := ?_) rfl (by kernel_rfl) (by kernel_rfl) (by kernel_rfl) (fun _ _ _ h => h) (by rfl) (by assumption) (fun wS hSw => ?_) ?_
              rotate_left
              · (try dsimp only at hSw); go_simp; first | done | with_reducible rfl   -- pick
              try simp only [Act.put, List.setIfInBounds_toArray, List.set_cons_zero, List.set_cons_succ]
              refine tk 42 (v := ?_) rfl (by kernel_rfl) (by kernel_rfl) (by kernel_rfl) (fun _ _ _ h => h) (by rfl) (by assumption) (fun wS hSw => ?_) ?_
              rotate_left
              · (try dsimp only at hSw); go_simp; first | done | with_reducible rfl   -- move
              try simp only [Act.put, List.setIfInBounds_toArray, List.set_cons_zero, List.set_cons_succ]
              refine tk 43 (v := ?_) rfl (by kernel_rfl) (by kernel_rfl) (by kernel_rfl) (fun _ _ _ h => h) (by rfl) (by assumption) (fun wS hSw => ?_) ?_
              rotate_left
              · (try dsimp only at hSw); go_simp; first | done | with_reducible rfl   -- fieldAddr
              try simp only [Act.put, List.setIfInBounds_toArray, List.set_cons_zero, List.set_cons_succ]
              refine tk 44 (v := ?_) rfl (by kernel_rfl) (by kernel_rfl) (by kernel_rfl) (fun _ _ _ h => h) (by rfl) (by assumption) (fun wS hSw => ?_) ?_
              rotate_left
              · (try dsimp only at hSw)   -- load
                refine loadM_exec 27 (.tmp 167) ?_ w6.heap.size 2 (hstCells G) _ Tryd.underlying27 rfl HI.out ?_ ?_
                · rfl
                · rfl
                · exact (K14.out.keep hSw).range (ath_cH ⟨cu, [], G, hp, po⟩)
              try simp only [Act.put, List.setIfInBounds_toArray, List.set_cons_zero, List.set_cons_succ]
              refine tk 45 (v := ?_) rfl (by kernel_rfl) (by kernel_rfl) (by kernel_rfl) (fun _ _ _ h => h) (by rfl) (by assumption) (fun wS hSw => ?_) ?_
              rotate_left
              · (try dsimp only at hSw); go_simp; first | done | with_reducible rfl   -- fieldAddr
              try simp only [Act.put, List.setIfInBounds_toArray, List.set_cons_zero, List.set_cons_succ]
              refine tk 46 (v := ?_) rfl (by kernel_rfl) (by kernel_rfl) (by kernel_rfl) (fun _ _ _ h => h) (by rfl) (by assumption) (fun wS hSw => ?_) ?_
              rotate_left
              · (try dsimp only at hSw)   -- load
                refine loadM_exec 27 (.tmp 169) ?_ w8.heap.size 2 (hstCells G) _ Tryd.underlying27 rfl HI.out ?_ ?_
                · rfl
                · rfl
                · exact (K16.out.keep hSw).range (ath_cH ⟨[], [], G, hp, po⟩)
              try simp only [Act.put, List.setIfInBounds_toArray, List.set_cons_zero, List.set_cons_succ]
              refine tk 47 (v := ?_) rfl (by kernel_rfl) (by kernel_rfl) (by kernel_rfl) (fun _ _ _ h => h) (by rfl) (by assumption) (fun wS hSw => ?_) ?_
              rotate_left
              · (try dsimp only at hSw)   -- binOp
                refine eqH_exec (.tmp 168) (.tmp 170) ?_ G G8.out ?_ ?_
                · rfl
                · rfl
                · rfl
              try simp only [Act.put, List.setIfInBounds_toArray, List.set_cons_zero, List.set_cons_succ]
              refine tk 48 (v := ?_) rfl (by kernel_rfl) (by kernel_rfl) (by kernel_rfl) (fun _ _ _ h => h) (by rfl) (by assumption) (fun wS hSw => ?_) ?_
              rotate_left
              · (try dsimp only at hSw); go_simp; first | done | with_reducible rfl   -- pick
              try simp only [Act.put, List.setIfInBounds_toArray, List.set_cons_zero, List.set_cons_succ]
              refine tk 49 (v := ?_) rfl (by kernel_rfl) (by kernel_rfl) (by kernel_rfl) (fun _ _ _ h => h) (by rfl) (by assumption) (fun wS hSw => ?_) ?_
              rotate_left
              · (try dsimp only at hSw); go_simp; first | done | with_reducible rfl   -- move
              try simp only [Act.put, List.setIfInBounds_toArray, List.set_cons_zero, List.set_cons_succ]
              refine tk 50 (v := ?_) rfl (by kernel_rfl) (by kernel_rfl) (by kernel_rfl) (fun _ _ _ h => h) (by rfl) (by assumption) (fun wS hSw => ?_) ?_
              rotate_left
              · (try dsimp only at hSw); go_simp; first | done | with_reducible rfl   -- fieldAddr
              try simp only [Act.put, List.setIfInBounds_toArray, List.set_cons_zero, List.set_cons_succ]
              refine tk 51 (v := ?_) rfl (by kernel_rfl) (by kernel_rfl) (by kernel_rfl) (fun _ _ _ h => h) (by rfl) (by assumption) (fun wS hSw => ?_) ?_
              rotate_left
              · (try dsimp only at hSw)   -- load
                refine load1_exec 4 (.tmp 174) ?_ w4.heap.size 13 (.bool hp) _ Tryd.underlying4 rfl ?_ ?_
                · rfl
                · rfl
                · exact (K12.out.keep hSw).cell_is (ath_c13 _ G8.out)
              try simp only [Act.put, List.setIfInBounds_toArray, List.set_cons_zero, List.set_cons_succ]
              refine tk 52 (v := ?_) rfl (by kernel_rfl) (by kernel_rfl) (by kernel_rfl) (fun _ _ _ h => h) (by rfl) (by assumption) (fun wS hSw => ?_) ?_
              rotate_left
              · (try dsimp only at hSw); go_simp; first | done | with_reducible rfl   -- fieldAddr
              try simp only [Act.put, List.setIfInBounds_toArray, List.set_cons_zero, List.set_cons_succ]
              refine tk 53 (v := ?_) rfl (by kernel_rfl) (by kernel_rfl) (by kernel_rfl) (fun _ _ _ h => h) (by rfl) (by assumption) (fun wS hSw => ?_) ?_
              rotate_left
              · (try dsimp only at hSw)   -- load
                refine load1_exec 4 (.tmp 176) ?_ w8.heap.size 13 (.bool hp) _ Tryd.underlying4 rfl ?_ ?_
                · rfl
                · rfl
                · exact (K16.out.keep hSw).cell_is (ath_c13 _ G8.out)
              try simp only [Act.put, List.setIfInBounds_toArray, List.set_cons_zero, List.set_cons_succ]
              refine tk 54 (v := ?_) rfl (by kernel_rfl) (by kernel_rfl) (by kernel_rfl) (fun _ _ _ h => h) (by rfl) (by assumption) (fun wS hSw => ?_) ?_
              rotate_left
              · (try dsimp only at hSw); go_simp; first | done | with_reducible rfl   -- binOp
              try simp only [Act.put, List.setIfInBounds_toArray, List.set_cons_zero, List.set_cons_succ]
              refine tk 55 (v := ?_) rfl (by kernel_rfl) (by kernel_rfl) (by kernel_rfl) (fun _ _ _ h => h) (by rfl) (by assumption) (fun wS hSw => ?_) ?_
              rotate_left
              · (try dsimp only at hSw); go_simp; first | done | with_reducible rfl   -- pick
              try simp only [Act.put, List.setIfInBounds_toArray, List.set_cons_zero, List.set_cons_succ]
              refine tk 56 (v := ?_) rfl (by kernel_rfl) (by kernel_rfl) (by kernel_rfl) (fun _ _ _ h => h) (by rfl) (by assumption) (fun wS hSw => ?_) ?_
              rotate_left
              · (try dsimp only at hSw); go_simp; first | done | with_reducible rfl   -- move
              try simp only [Act.put, List.setIfInBounds_toArray, List.set_cons_zero, List.set_cons_succ]
              refine tk 57 (v := ?_) rfl (by kernel_rfl) (by kernel_rfl) (by kernel_rfl) (fun _ _ _ h => h) (by rfl) (by assumption) (fun wS hSw => ?_) ?_
              rotate_left
              · (try dsimp only at hSw); go_simp; first | done | with_reducible rfl   -- fieldAddr
              try simp only [Act.put, List.setIfInBounds_toArray, List.set_cons_zero, List.set_cons_succ]
              refine tk 58 (v := ?_) rfl (by kernel_rfl) (by kernel_rfl) (by kernel_rfl) (fun _ _ _ h => h) (by rfl) (by assumption) (fun wS hSw => ?_) ?_
              rotate_left
              · (try dsimp only at hSw)   -- load
                refine load1_exec 3 (.tmp 181) ?_ w6.heap.size 14 (.int .i64 po) _ Tryd.underlying3 rfl ?_ ?_
                · rfl
                · rfl
                · exact (K14.out.keep hSw).cell_is (ath_c14 _ G8.out)
              try simp only [Act.put, List.setIfInBounds_toArray, List.set_cons_zero, List.set_cons_succ]
              refine tk 59 (v := ?_) rfl (by kernel_rfl) (by kernel_rfl) (by kernel_rfl) (fun _ _ _ h => h) (by rfl) (by assumption) (fun wS hSw => ?_) ?_
              rotate_left
              · (try dsimp only at hSw); go_simp; first | done | with_reducible rfl   -- fieldAddr
              try simp only [Act.put, List.setIfInBounds_toArray, List.set_cons_zero, List.set_cons_succ]
              refine tk 60 (v := ?_) rfl (by kernel_rfl) (by kernel_rfl) (by kernel_rfl) (fun _ _ _ h => h) (by rfl) (by assumption) (fun wS hSw => ?_) ?_
              rotate_left
              · (try dsimp only at hSw)   -- load
                refine load1_exec 3 (.tmp 183) ?_ w8.heap.size 14 (.int .i64 po) _ Tryd.underlying3 rfl ?_ ?_
                · rfl
                · rfl
                · exact (K16.out.keep hSw).cell_is (ath_c14 _ G8.out)
              try simp only [Act.put, List.setIfInBounds_toArray, List.set_cons_zero, List.set_cons_succ]
              refine tk 61 (v := ?_) rfl (by kernel_rfl) (by kernel_rfl) (by kernel_rfl) (fun _ _ _ h => h) (by rfl) (by assumption) (fun wS hSw => ?_) ?_
              rotate_left
              · (try dsimp only at hSw); go_simp; first | done | with_reducible rfl   -- binOp
              try simp only [Act.put, List.setIfInBounds_toArray, List.set_cons_zero, List.set_cons_succ]
              refine tk 62 (v := ?_) rfl (by kernel_rfl) (by kernel_rfl) (by kernel_rfl) (fun _ _ _ h => h) (by rfl) (by assumption) (fun wS hSw => ?_) ?_
              rotate_left
              · (try dsimp only at hSw); go_simp; first | done | with_reducible rfl   -- pick
              try simp only [Act.put, List.setIfInBounds_toArray, List.set_cons_zero, List.set_cons_succ]
              refine tk 63 (v := ?_) rfl (by kernel_rfl) (by kernel_rfl) (by kernel_rfl) (fun _ _ _ h => h) (by rfl) (by assumption) (fun wS hSw => ?_) ?_
              rotate_left
              · (try dsimp only at hSw); go_simp; first | done | with_reducible rfl   -- assign
              try simp only [Act.put, List.setIfInBounds_toArray, List.set_cons_zero, List.set_cons_succ]
              refine wpAnyH_done (by kernel_rfl) ?_ _
              go_wp2_with fail
              go_ret
              exact ⟨ret1_bool (by simp), HB9.out.trans (hB1.mono HB9.out.size)⟩
  all_goals
    clear hE
    go_enter Tryd.func3, Tryd.ntmps3
    go_wp2_with fail
    refine (HSM.out).mono ?_
    rintro e w1 ⟨rfl, hb1⟩
    have HB1 := Lib.hid hb1; clear hb1
    go_wp2_with fail
    go_ret
    exact ⟨rfl, HB1.out⟩
end Go.Proofs.YtjgenpooedkfmaaDoor
