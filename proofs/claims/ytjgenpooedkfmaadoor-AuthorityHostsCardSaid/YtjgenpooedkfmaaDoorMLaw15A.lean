/- The walk of AuthorityHosts. -/
import Derived.Test.YtjgenpooedkfmaaDoorGHlwA
namespace Go.Proofs.YtjgenpooedkfmaaDoor
open Go.RowKit
set_option maxRecDepth 10000

theorem bldAh (g : Hst) (h8 : g.six.length = 8) : ∀ w, (Instr.build 29 #[(2, .agg (hCells g))]).run Tryd.prog w = .ok (.agg (aCells { A0 with host := g })) w := fun w => by
  obtain ⟨k, n, f, six⟩ := g
  simp only at h8
  obtain ⟨a, b, c, d, e, f, g, i, rfl⟩ := eight h8
  kernel_rfl
theorem bldA1 {ops : Array Oper} {rest : List Oper} {o : Oper} {a : Act} {w : World} {Q : Exit → Act → World → Prop} (hg : Region.wanted o (yielded ops a.tmps) = true) (i : Nat) (x : Operand) (ho : o.op = .build 29 #[(i, x)]) (X : Value) (h : Ath) (hx : a.eval x = X) (hr : ∀ w, (Instr.build 29 #[(i, X)]).run Tryd.prog w = .ok (.agg (aCells h)) w)
    (k : wpList Tryd.prog ops Q rest (a.put o.dst (.agg (aCells h))) w) : wpList Tryd.prog ops Q (o :: rest) a w := bldA hg _ ho #[(i, X)] h (by subst hx; simp) hr k
theorem b2_64 {c : UInt8} : b2 c = 64 ↔ c = 64 := ⟨fun h => b2_inj (h.trans (by decide)), fun h => by rw [h]; decide⟩
/-- without an @, and without a colon outside of brackets: the host is all -/
theorem auth_all {sch l : Bytes} (h : (64 : UInt8) ∉ l) (hc : colN false l = none) : (authF sch l).getD A0 = { A0 with host := (hostP l (spF sch)).getD H0 } ∧ (authF sch l).isSome = (hostP l (spF sch)).isSome := by
  rw [auth_host h (by rw [col_n, hc]; rfl)]
  cases hostP l (spF sch) with
  | none => exact ⟨rfl, rfl⟩
  | some g => exact ⟨rfl, rfl⟩
set_option maxHeartbeats 40000000 in
theorem authorityHosts_walk (c s : ByteArray) (w : World) (_ : c.size ≤ maxLen) (_ : s.size ≤ maxLen) (hE : Env w) :
    Calls Tryd.prog 4 #[.string c, .string s] w fun e w' => e = .returned (.bool true) ∧ Below w.heap.size w w' := by
  have HSM := Lib.hid (small15_any w hE)
  by_cases hb1 : 50 < c.size
  · clear hE
    go_enter Tryd.func4, Tryd.ntmps4
    go_wp2_with fail
    refine (HSM.out).mono ?_
    rintro e w1 ⟨rfl, hb1⟩
    have HB1 := Lib.hid hb1; clear hb1
    go_wp2_with fail
    go_ret
    exact ⟨rfl, HB1.out⟩
  by_cases hb2 : 200 < s.size
  · clear hE
    go_enter Tryd.func4, Tryd.ntmps4
    go_wp2_with fail
    refine (HSM.out).mono ?_
    rintro e w1 ⟨rfl, hb1⟩
    have HB1 := Lib.hid hb1; clear hb1
    go_wp2_with fail
    go_ret
    exact ⟨rfl, HB1.out⟩
  have hl : (ls s).length ≤ 200 := by rw [ls_length]; omega
  have hho := fun (W : World) (hW : Below w.heap.size w W) => hp_small s (spF (ls c)) (by omega) hE hW
  have hap := fun (W : World) (hW : Below w.heap.size w W) => ap_small c s (by omega) hE hW
  have hsp := fun (W : World) => special_any (ls c) W
  rw [bs_ls] at hsp
  have hall := fun h1 h2 => @auth_all (ls c) (ls s) h1 h2
  have h8 := host_six (ls s) (spF (ls c))
  obtain ⟨G, hG⟩ : ∃ G, G = (hostP (ls s) (spF (ls c))).getD H0 := ⟨_, rfl⟩
  obtain ⟨q, hq⟩ : ∃ q, q = (hostP (ls s) (spF (ls c))).isSome := ⟨_, rfl⟩
  have HHO := Lib.hid (show ∀ W, Below w.heap.size w W → Calls Tryd.prog 8 #[.string s, .bool (spF (ls c))] W fun e w' => e = .returned (.tuple #[.agg (hCells G), .bool q]) ∧ Below W.heap.size W w' from by rw [hG, hq]; exact hho)
  have HAP := Lib.hid (show (64 : UInt8) ∉ ls s → colN false (ls s) = none → ∀ W, Below w.heap.size w W → Calls Tryd.prog 6 #[.string c, .string s] W fun e w' => e = .returned (.tuple #[.agg (aCells { A0 with host := G }), .bool q]) ∧ Below W.heap.size W w' from fun h1 h2 W hW => by
    obtain ⟨e1, e2⟩ := hall h1 h2
    rw [hG, hq, ← e1, ← e2]
    exact hap W hW)
  have HSP := Lib.hid hsp
  have G8 := Lib.hid (show G.six.length = 8 by rw [hG]; exact h8)
  clear hho hap hsp hall h8 hG hq hE
  generalize spF (ls c) = sp at *
  have hby : ∀ k (hk : k < s.size) (hk2 : k < (ls s).length), ((s[k]'hk).toNat : Int) = b2 (ls s)[k] := fun k hk hk2 => str_at (bs_ls s).symm hk hk2
  have hsz : s.size = (ls s).length := (ls_length s).symm
  obtain ⟨R, hR⟩ : ∃ R, R = colN false (ls s) := ⟨_, rfl⟩
  rw [← hR] at HAP
  have HR := Lib.hid hR; clear hR
  generalize ls s = l at *
  obtain ⟨N, hN⟩ : ∃ N, N = s.size := ⟨_, rfl⟩
  have hsN : s.size = N := hN.symm
  have hNm : N ≤ 200 := by omega
  have HBY := Lib.hid hby; clear hby
  have HSZ := Lib.hid hsz; clear hsz hl hN
  go_enter Tryd.func4, Tryd.ntmps4
  go_wp2_with fail
  refine (HSM.out).mono ?_
  rintro e w1 ⟨rfl, hb1⟩
  have HB1 := Lib.hid hb1; clear hb1
  go_wp2_with fail
  go_loopw [6, 7] (fun bv iv wr => ∃ (k : Nat) (i : Bool), k ≤ N ∧ iv = .int .i64 k ∧ bv = .bool i ∧ Hid ((colN i (l.drop k)).map (· + k) = R) ∧ Hid (∀ j (hj : j < l.length), j < k → b2 l[j] ≠ 64) ∧ w1 = wr) (fun _ i _ => N - (intOf i).toNat)
  case atStart => exact ⟨0, false, by omega, by simp, rfl, (by rw [HR.out]; show (colN false (List.drop 0 l)).map (· + 0) = _; simp), (fun j hj h => absurd h (Nat.not_lt_zero j)), rfl⟩
  case round =>
    obtain ⟨k, i, hk, rfl, rfl, hd, hall, rfl⟩ := hrel
    by_cases hlt : k < N
    · have hku : k < s.size := by omega
      have hkl : k < l.length := by have := HSZ.out; omega
      have hx := HBY.out k hku hkl
      have hst := colN_at i hkl
      rw [hd.out] at hst
      have hnext : b2 l[k] ≠ 64 → ∀ j (hj : j < l.length), j < k + 1 → b2 l[j] ≠ 64 := fun h j hj h1 => by
        rcases Nat.lt_or_ge j k with h2 | h2
        · exact hall.out j hj h2
        · obtain rfl : j = k := by omega
          exact h
      have HN := Lib.hid hnext; clear hnext hd hall
      obtain ⟨X, hX⟩ : ∃ X, X = b2 l[k] := ⟨_, rfl⟩
      rw [← hX] at hx hst HN
      clear hX
      have hc : X = 64 ∨ X = 58 ∨ X = 91 ∨ X = 93 ∨ (X ≠ 64 ∧ X ≠ 58 ∧ X ≠ 91 ∧ X ≠ 93) := by omega
      rcases hc with rfl | rfl | rfl | rfl | ⟨h0, h1, h2, h3⟩
      · clear hst HN
        go_wp2_with fail
        go_ret
        exact ⟨rfl, HB1.out⟩
      · cases i with
        | false =>
          clear hst HN
          go_wp2_with fail
          go_ret
          exact ⟨rfl, HB1.out⟩
        | true =>
          rw [if_neg (by simp), if_neg (by decide), if_neg (by decide)] at hst
          have HST := Lib.hid hst; clear hst
          have HS := Lib.hid (HN.out (by decide)); clear HN
          go_wp2_with fail
          go_roundw
          case rel => exact ⟨k + 1, true, by omega, by simp, rfl, HST.out.symm, HS.out, by trivial⟩
          case measure => simp [intOf]; omega
      · rw [if_neg (by simp), if_pos rfl] at hst
        have HST := Lib.hid hst; clear hst
        have HS := Lib.hid (HN.out (by decide)); clear HN
        go_wp2_with fail
        go_roundw
        case rel => exact ⟨k + 1, true, by omega, by simp, rfl, HST.out.symm, HS.out, by trivial⟩
        case measure => simp [intOf]; omega
      · rw [if_neg (by simp), if_neg (by decide), if_pos rfl] at hst
        have HST := Lib.hid hst; clear hst
        have HS := Lib.hid (HN.out (by decide)); clear HN
        go_wp2_with fail
        go_roundw
        case rel => exact ⟨k + 1, false, by omega, by simp, rfl, HST.out.symm, HS.out, by trivial⟩
        case measure => simp [intOf]; omega
      · rw [if_neg (fun h => h1 h.1), if_neg h2, if_neg h3] at hst
        have HST := Lib.hid hst; clear hst
        have HS := Lib.hid (HN.out h0); clear HN
        have e0 : (X == 64) = false := by simpa using h0
        have e1 : (X == 58) = false := by simpa using h1
        have e2 : (X == 91) = false := by simpa using h2
        have e3 : (X == 93) = false := by simpa using h3
        go_wp2_with fail
        go_roundw
        case rel => exact ⟨k + 1, i, by omega, by simp, rfl, HST.out.symm, HS.out, by trivial⟩
        case measure => simp [intOf]; omega
    · obtain rfl : k = N := by omega
      have hdr : l.drop k = [] := List.drop_eq_nil_of_le (by have := HSZ.out; omega)
      have hd1 := hd.out
      rw [hdr] at hd1
      have hrn : R = none := hd1.symm
      have hno : (64 : UInt8) ∉ l := fun hm => by
        obtain ⟨j, hj, he⟩ := List.getElem_of_mem hm
        exact hall.out j hj (by have := HSZ.out; omega) (b2_64.mpr he)
      have HAQ := Lib.hid (HAP.out hno hrn)
      clear hd1 hrn hno hdr hd hall HAP HR HBY HSZ
      go_upto_region 13 with (first
        | (go_at_call 9; refine (HSP.out _).mono ?_; rintro e w3 ⟨rfl, hw3⟩; subst hw3)
        | (go_at_call 8; refine (HHO.out _ HB1.out).mono ?_; rintro e w4 ⟨rfl, hb⟩; have HC4 := Lib.hid hb; clear hb)
        | (refine alloc_to rfl 27 rfl _ _ (allH _) ?_)
        | (refine storeH rfl (.tmp 8) (.tmp 62) rfl G G8.out rfl rfl rfl ?_; intro W4 hh hb; have HH := Lib.hid hh; have HB4 := Lib.hid (stp HB1.out (stp HC4.out hb)); clear hh hb HC4)
        | fail)
      go_upto_region 14 with (first
        | (go_at_call 6; refine (HAQ.out _ HB4.out).mono ?_; rintro e w5 ⟨rfl, hb⟩; have HC5 := Lib.hid hb; clear hb)
        | (refine alloc_to rfl 29 rfl _ _ (allA _) ?_)
        | (refine storeA rfl (.tmp 10) (.tmp 68) rfl { A0 with host := G } G8.out rfl rfl rfl ?_; intro W5 hh hb; have HA := Lib.hid hh; have HH5 := Lib.hid (HH.out.keep (stp HC5.out hb)); have HB5 := Lib.hid (stp HB4.out (stp HC5.out hb)); clear hh hb HC5)
        | fail)
      obtain ⟨AA, hAA⟩ : ∃ AA : Ath, AA = { A0 with host := G } := ⟨_, rfl⟩
      have hbl := bldAh G G8.out
      have ha := HA.out
      have hA8 : AA.host.six.length = 8 := by rw [hAA]; exact G8.out
      rw [← hAA] at hbl ha
      clear hAA HA HAQ HHO HSP HH
      have HA := Lib.hid ha; clear ha
      have HBL := Lib.hid hbl; clear hbl
      have HA8 := Lib.hid hA8; clear hA8
      cases q <;>
      · go_wp2_with (first
          | (refine loadA (by rfl) (.tmp 10) rfl _ AA HA8.out rfl HA.out ?_)
          | (refine loadH (by rfl) (.tmp 8) rfl _ G HH5.out rfl ?_)
          | (refine bldA1 (by rfl) 2 (.tmp 78) rfl (.agg (hCells G)) AA rfl HBL.out ?_)
          | (refine eqA (by rfl) (.tmp 77) (.tmp 79) rfl AA HA8.out rfl rfl ?_)
          | fail)
        go_ret
        exact ⟨ret1_bool (by simp), HB5.out⟩
end Go.Proofs.YtjgenpooedkfmaaDoor
