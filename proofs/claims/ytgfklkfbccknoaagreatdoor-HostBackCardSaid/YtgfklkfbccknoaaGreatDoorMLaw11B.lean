/- The walk of HostBack. -/
import Derived.Test.YtgfklkfbccknoaaGreatDoorGHlwA
import Derived.Test.YtgfklkfbccknoaaGreatDoorGHstF
namespace Go.Proofs.YtgfklkfbccknoaaGreatDoor
open Go.RowKit
set_option maxRecDepth 10000

set_option maxHeartbeats 40000000 in
theorem hostBack_walk (s : ByteArray) (sp : Bool) (w : World) (_ : s.size ≤ maxLen) (hE : Env w) (hN : NE w) :
    Calls Tryz.prog 4 #[.string s, .bool sp] w fun e w' => e = .returned (.bool true) ∧ Below w.heap.size w w' := by
  have HSM := Lib.hid (small11_any w hE hN)
  by_cases hbig : 300 < s.size
  · clear hE hN
    go_enter Tryz.func4, Tryz.ntmps4
    go_wp2_with fail
    refine (HSM.out).mono ?_
    rintro e w1 ⟨rfl, hb1⟩
    have HB1 := Lib.hid hb1; clear hb1
    go_wp2_with fail
    go_ret
    exact ⟨rfl, HB1.out⟩
  have HP := Lib.hid (fun (W : World) (hW : Below w.heap.size w W) => hp_small s sp (by omega) hE hW)
  cases hR : hostP (ls s) sp with
  | none =>
    rw [hR] at HP
    replace HP := Lib.hid (show ∀ W, Below w.heap.size w W → Calls Tryz.prog 11 #[.string s, .bool sp] W fun e w' => e = .returned (.tuple #[.agg (hCells H0), .bool false]) ∧ Below W.heap.size W w' from HP.out)
    clear hR hE hN
    go_enter Tryz.func4, Tryz.ntmps4
    go_upto_region 5 with (first
      | (go_at_call 10; refine (HSM.out).mono ?_; rintro e w1 ⟨rfl, hb1⟩; have HB1 := Lib.hid hb1; clear hb1)
      | (go_at_call 11; refine (HP.out _ HB1.out).mono ?_; rintro e w2 ⟨rfl, hb⟩; have HC2 := Lib.hid hb; clear hb)
      | (refine alloc_to rfl 26 rfl _ _ (allH _) ?_)
      | (refine storeH rfl (.tmp 6) (.tmp 21) rfl H0 rfl rfl rfl rfl ?_; intro W2 hh hb; have HH := Lib.hid hh; have HB2 := Lib.hid (stp HB1.out (stp HC2.out hb)); clear hh hb HC2)
      | fail)
    go_wp2_with (first
      | (refine loadH (by rfl) (.tmp 6) rfl _ H0 HH.out rfl ?_)
      | (refine bldH (by rfl) #[] rfl #[] H0 (by rfl) bldH0 ?_)
      | (refine eqH (by rfl) (.tmp 27) (.tmp 28) rfl H0 rfl rfl rfl ?_)
      | fail)
    go_ret
    exact ⟨ret1_bool (by simp), HB2.out⟩
  | some G =>
    rw [hR] at HP
    replace HP := Lib.hid (show ∀ W, Below w.heap.size w W → Calls Tryz.prog 11 #[.string s, .bool sp] W fun e w' => e = .returned (.tuple #[.agg (hCells G), .bool true]) ∧ Below W.heap.size W w' from HP.out)
    have hlen : (ls s).length ≤ 300 := by rw [ls_length]; omega
    have hk := hkind hR
    have ok := hkind_ok hk
    have hsh := back_short hk hlen
    have hbl := back_len hk hlen
    obtain ⟨hb1, _, hb3⟩ := host_back hR
    have hby0 := back_byte hR
    have hp2 := fun (W : World) (hW : Below w.heap.size w W) => hparse_any (hostF G) sp W hsh (hE.below hW)
    rw [hb1] at hp2
    have hnl : G.name.length ≤ 100000 := by
      have hx : G.name = [] ∨ G.name = hostF G := by cases hk with | six a h8 ha hs => exact .inl rfl | name n e hs hd hn hb he => exact .inr rfl | four n e hs h => exact .inl rfl | empty e h => exact .inl rfl | opaq e hs h hb => exact .inr rfl
      rcases hx with hx | hx
      · rw [hx]; simp
      · rw [hx]; omega
    have HW := Lib.hid (fun (W : World) (hW : Below w.heap.size w W) => hwrite_any G _ W (hstAt_of ok) hnl (hN.below hW))
    obtain ⟨T, hT⟩ : ∃ T, T = hostF G := ⟨_, rfl⟩
    rw [← hT] at hp2 HW hb3 hby0 hbl
    obtain ⟨u, hu⟩ : ∃ u, u = bs T := ⟨_, rfl⟩
    rw [← hu] at hp2
    replace HW := Lib.hid (show ∀ W, Below w.heap.size w W → Calls Tryz.prog 13 #[.agg (hCells G)] W fun e w' => e = .returned (.string u) ∧ Below W.heap.size W w' from by rw [hu]; exact HW.out)
    have HP2 := Lib.hid (show ∀ W, Below w.heap.size w W → Calls Tryz.prog 11 #[.string u, .bool sp] W fun e w' => e = .returned (.tuple #[.agg (hCells G), .bool true]) ∧ Below W.heap.size W w' from hp2)
    have huz : u.size = T.length := by rw [hu, bs_size]
    have hby : ∀ k (hk : k < u.size), (32 < ((u[k]'hk).toNat : Int) ∧ ((u[k]'hk).toNat : Int) ≤ 126) ∧ (G.kind = 4 ∨ badF ((u[k]'hk).toNat : Int) = false) := by
      intro k hk
      rw [str_at hu hk (by omega)]
      exact hby0 _ (List.getElem_mem _)
    have hue : (u.toList = []) ↔ G.kind = 1 := by rw [hu, toList_bs]; exact hb3
    have hG8 := ok.l
    obtain ⟨K, hK⟩ : ∃ K, K = G.kind := ⟨_, rfl⟩
    rw [← hK] at hby hue
    have HC0 := Lib.hid (show (hCells G)[0]? = some (.int .i64 K) by rw [hK]; rfl)
    have HG8 := Lib.hid hG8
    clear hR hE hN hk ok hsh hb1 hb3 hby0 hp2 hnl hu hT hG8 hK hlen
    obtain ⟨Z, hZ⟩ : ∃ Z, Z = u.size := ⟨_, rfl⟩
    have huZ : u.size = Z := hZ.symm
    have hZm : Z ≤ 30000 := by omega
    have HBY := Lib.hid hby
    have HUE := Lib.hid hue
    clear huz hZ hbl hby hue
    go_enter Tryz.func4, Tryz.ntmps4
    go_upto_region 5 with (first
      | (go_at_call 10; refine (HSM.out).mono ?_; rintro e w1 ⟨rfl, hb1⟩; have HB1 := Lib.hid hb1; clear hb1)
      | (go_at_call 11; refine (HP.out _ HB1.out).mono ?_; rintro e w2 ⟨rfl, hb⟩; have HC2 := Lib.hid hb; clear hb)
      | (refine alloc_to rfl 26 rfl _ _ (allH _) ?_)
      | (refine storeH rfl (.tmp 6) (.tmp 21) rfl G HG8.out rfl rfl rfl ?_; intro W2 hh hb; have HH := Lib.hid hh; have HB2 := Lib.hid (stp HB1.out (stp HC2.out hb)); clear hh hb HC2)
      | fail)
    go_upto_region 8 with (first
      | (go_at_call 13; refine (HW.out _ HB2.out).mono ?_; rintro e w3 ⟨rfl, hb⟩; have HH3 := Lib.hid (HH.out.keep hb); have HB3 := Lib.hid (stp HB2.out hb); clear hb)
      | (refine loadH (by rfl) (.tmp 6) rfl _ G HH.out rfl ?_)
      | fail)
    go_wp2_with fail
    have c0 := HH3.out.cell 0
    rw [HC0.out] at c0
    go_loopw [9] (fun iv wr => ∃ k : Nat, k ≤ Z ∧ iv = .int .i64 k ∧ w3 = wr) (fun i _ => Z - (intOf i).toNat)
    case atStart => exact ⟨0, by omega, by simp, rfl⟩
    case round =>
      obtain ⟨k, hk, rfl, rfl⟩ := hrel
      by_cases hlt : k < Z
      · have hku : k < u.size := by omega
        have hall := HBY.out k hku
        obtain ⟨X, hX⟩ : ∃ X, X = ((u[k]'hku).toNat : Int) := ⟨_, rfl⟩
        rw [← hX] at hall
        have hx := hX.symm
        obtain ⟨⟨hx1, hx2⟩, hx3⟩ := hall
        clear hX
        have HBD := Lib.hid (fun W => bad_any X W)
        cases hq : badF X with
        | true =>
          rw [hq] at HBD
          have hK4 : K = 4 := by rcases hx3 with h | h; exact h; rw [hq] at h; cases h
          subst hK4
          clear hx3 hq
          go_wp2_with (first
            | (go_at_call 15; refine (HBD.out _).mono ?_; rintro e w4 ⟨rfl, hw4⟩; subst hw4)
            | fail)
          go_roundw
          case rel => exact ⟨k + 1, by omega, by simp, trivial⟩
          case measure => simp [intOf]; omega
        | false =>
          rw [hq] at HBD
          clear hx3 hq
          go_wp2_with (first
            | (go_at_call 15; refine (HBD.out _).mono ?_; rintro e w4 ⟨rfl, hw4⟩; subst hw4)
            | fail)
          go_roundw
          case rel => exact ⟨k + 1, by omega, by simp, trivial⟩
          case measure => simp [intOf]; omega
      · obtain rfl : k = Z := by omega
        by_cases hK1 : K = 1
        · subst hK1
          have he2 := HUE.out.mpr rfl
          have he : u.toList.isEmpty = true := by rw [he2]; rfl
          go_upto_region 14 with (first
            | (go_at_call 11; refine (HP2.out _ HB3.out).mono ?_; rintro e w4 ⟨rfl, hb⟩; have HC4 := Lib.hid hb; clear hb)
            | (refine alloc_to rfl 26 rfl _ _ (allH _) ?_)
            | (refine storeH rfl (.tmp 10) (.tmp 64) rfl G HG8.out rfl rfl rfl ?_; intro W4 hh hb; have HH4 := Lib.hid hh; have HX4 := Lib.hid (HH3.out.keep (stp HC4.out hb)); have HB4 := Lib.hid (stp HB3.out (stp HC4.out hb)); clear hh hb HC4)
            | fail)
          have c4 := HX4.out.cell 0
          rw [HC0.out] at c4
          go_wp2_with (first
            | (refine loadH (by rfl) (.tmp 10) rfl _ G HH4.out rfl ?_)
            | (refine loadH (by rfl) (.tmp 6) rfl _ G HX4.out rfl ?_)
            | (refine eqH (by rfl) (.tmp 71) (.tmp 72) rfl G HG8.out rfl rfl ?_)
            | fail)
          go_ret
          exact ⟨ret1_bool (by simp), HB4.out⟩
        · have he2 : ¬ u.toList = [] := fun h => hK1 (HUE.out.mp h)
          have he : u.toList.isEmpty = false := by simpa using he2
          have hKq : (K == 1) = false := by simpa using hK1
          go_upto_region 14 with (first
            | (go_at_call 11; refine (HP2.out _ HB3.out).mono ?_; rintro e w4 ⟨rfl, hb⟩; have HC4 := Lib.hid hb; clear hb)
            | (refine alloc_to rfl 26 rfl _ _ (allH _) ?_)
            | (refine storeH rfl (.tmp 10) (.tmp 64) rfl G HG8.out rfl rfl rfl ?_; intro W4 hh hb; have HH4 := Lib.hid hh; have HX4 := Lib.hid (HH3.out.keep (stp HC4.out hb)); have HB4 := Lib.hid (stp HB3.out (stp HC4.out hb)); clear hh hb HC4)
            | fail)
          have c4 := HX4.out.cell 0
          rw [HC0.out] at c4
          go_wp2_with (first
            | (refine loadH (by rfl) (.tmp 10) rfl _ G HH4.out rfl ?_)
            | (refine loadH (by rfl) (.tmp 6) rfl _ G HX4.out rfl ?_)
            | (refine eqH (by rfl) (.tmp 71) (.tmp 72) rfl G HG8.out rfl rfl ?_)
            | fail)
          go_ret
          exact ⟨ret1_bool (by simp), HB4.out⟩
end Go.Proofs.YtgfklkfbccknoaaGreatDoor
