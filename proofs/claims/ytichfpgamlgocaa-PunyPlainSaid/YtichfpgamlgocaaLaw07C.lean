/- The walk of PunyPlain. -/
import Derived.Test.YtichfpgamlgocaaLaw07A
import Derived.IntWalk
namespace Go.Proofs.Ytichfpgamlgocaa
open Go.RowKit

theorem dgt_dg {y : UInt8} (h : isDg y) : 0 ≤ dgt (b2 y) 36 ∧ ¬ (65 ≤ b2 y ∧ b2 y ≤ 90) := by
  unfold isDg at h
  rcases h with h | h
  · rw [dgt_of (n := b2 y - 87) (by omega), if_neg (by omega)]; omega
  · rw [dgt_of (n := b2 y - 48) (by omega), if_neg (by omega)]; omega

set_option maxRecDepth 8000 in
set_option maxHeartbeats 4000000 in
theorem punyPlain_walk (v : Value) (l : List Int) (w : World) (h : Sl w.heap.size w v (I64s l)) (_ : ∀ n ∈ l, (Lit.int .i64 n).wf = true) :
    Calls Try.prog 7 #[v] w fun e w' => e = .returned (.bool true) ∧ Below w.heap.size w w' := by
  obtain ⟨i8, hi8, hz8, hz81, hz82⟩ := info_parts u8_info
  obtain ⟨av, c, rfl⟩ := slice_val h
  rw [show (I64s l).length = l.length by simp] at h ⊢
  rcases encR_cases l with e1 | ⟨e1, f1, g1⟩
  · have H := Lib.hid h; clear h
    have HA := Lib.hid e1; clear e1
    obtain ⟨L, hL⟩ : ∃ L, L = l.length := ⟨_, rfl⟩
    rw [← hL] at H ⊢
    clear hL
    go_enter Try.func7, Try.ntmps7
    go_wp2_with fail
    refine (small7_any _).mono ?_
    rintro e w1 ⟨rfl, hb1⟩
    have HB1 := Lib.hid hb1; clear hb1
    go_wp2_with fail
    refine (encode_val l _ [] false _ _ (H.out.below HB1.out) (HB1.out.size) HA.out).mono ?_
    rintro e w2 ⟨rfl, hb2⟩
    have HB2 := Lib.hid (HB1.out.trans (hb2.mono HB1.out.size)); clear hb2
    go_wp2_with fail
    go_ret
    exact ⟨rfl, HB2.out⟩
  · obtain ⟨W, hp1, hp2, hp3, hp4⟩ := encF_parts f1 g1
    have hbe := bas_le l
    have hlen : (encF l).length = (bas l).length + (if (bas l).length = 0 then 0 else 1) + W.length := by
      rw [hp1, List.length_append, List.length_append]
      unfold hyp
      split <;> simp
    have htk : (encF l).take (bas l).length = bas l := by rw [hp1, List.append_assoc, List.take_left]
    have hhy : 0 < (bas l).length → ∀ h : (bas l).length < (encF l).length, (encF l)[(bas l).length] = 45 := by
      intro h0 h
      have e : encF l = bas l ++ 45 :: W := by rw [hp1]; unfold hyp; rw [if_neg (by omega), List.append_assoc]; rfl
      simp only [e]
      rw [List.getElem_append_right (Nat.le_refl _)]
      simp
    have hdg : ∀ k (h : k < (encF l).length), (bas l).length + (if (bas l).length = 0 then 0 else 1) ≤ k → isDg (encF l)[k] := by
      intro k h hk
      refine hp2 _ ?_
      have e : (encF l).drop ((bas l).length + (if (bas l).length = 0 then 0 else 1)) = W := by
        rw [hp1]
        have : (bas l ++ hyp (bas l)).length = (bas l).length + (if (bas l).length = 0 then 0 else 1) := by
          rw [List.length_append]; unfold hyp; split <;> simp
        rw [← this, List.drop_left]
      rw [← e]
      obtain ⟨q, rfl⟩ := Nat.exists_eq_add_of_le hk
      refine List.mem_of_getElem? (i := q) ?_
      rw [List.getElem?_drop]
      exact List.getElem?_eq_getElem h
    clear hp1 hp2
    obtain ⟨A, hA⟩ : ∃ A, A = encF l := ⟨_, rfl⟩
    rw [← hA] at e1 hlen htk hhy hdg
    clear hA
    obtain ⟨sA, hsA⟩ : ∃ sA, sA = bs A := ⟨_, rfl⟩
    have hen : ∀ W : World, Below w.heap.size w W → w.heap.size ≤ W.heap.size → Calls Try.prog 9 #[.slice av l.length c] W fun e w' => e = .returned (.tuple #[.string sA, .bool true]) ∧ Below W.heap.size W w' := by
      intro W hb hz
      rw [hsA]
      exact encode_val l (.slice av l.length c) A true W _ (h.below hb) hz e1
    have hAs : A.length = sA.size := by rw [hsA, bs_size]
    rw [hAs] at hlen
    clear e1
    have H := Lib.hid h; clear h
    have HAS := Lib.hid hAs; clear hAs
    have HSA := Lib.hid hsA; clear hsA
    have HTK := Lib.hid htk; clear htk
    have HHY := Lib.hid hhy; clear hhy
    have HDG := Lib.hid hdg; clear hdg
    obtain ⟨n, hn⟩ : ∃ n, n = (bas l).length := ⟨_, rfl⟩
    rw [← hn] at hbe hlen hp3 hp4
    have HN := Lib.hid hn; clear hn
    obtain ⟨L, hL⟩ : ∃ L, L = l.length := ⟨_, rfl⟩
    rw [← hL] at hp3 hp4 g1 hbe ⊢
    have HL := Lib.hid hL; clear hL
    rw [← HL.out] at hen
    have HEN := Lib.hid hen; clear hen
    have HF1 := Lib.hid f1; clear f1
    generalize W.length = wl at *
    have HX := Lib.hid hlen; clear hlen
    have HP4 := Lib.hid hp4; clear hp4
    have HP3 := Lib.hid hp3; clear hp3
    go_enter Try.func7, Try.ntmps7
    go_wp2_with fail
    refine (small7_any _).mono ?_
    rintro e w1 ⟨rfl, hb1⟩
    have HB1 := Lib.hid hb1; clear hb1
    go_wp2_with fail
    refine (HEN.out _ HB1.out HB1.out.size).mono ?_
    rintro e w2 ⟨rfl, hb2⟩
    have HB2 := Lib.hid (HB1.out.trans (hb2.mono HB1.out.size)); clear hb2
    have hat := slice_at (HL.out ▸ H.out.below HB2.out)
    have HAT := Lib.hid hat; clear hat
    go_wp2_with fail
    go_loopw [6, 7] (fun ov iv wr => ∃ (k : Nat), k ≤ L ∧ iv = .int .i64 k ∧ wr.ownsRow w.heap.size 5 1 ov (bas (l.take k)).length (Lib.byteCells (bas (l.take k))) ∧ w.heap.size ≤ wr.heap.size ∧ Below w.heap.size w wr ∧ Below w.heap.size w2 wr) (fun _ i _ => L - (intOf i).toNat)
    case atStart => exact ⟨0, Nat.zero_le _, rfl, ⟨by simp [bas, Lib.byteCells], .inl ⟨rfl, by simp [bas]⟩⟩, HB2.out.size, HB2.out, Below.refl _ _⟩
    case round =>
      obtain ⟨k, hk, rfl, hown, hwz, hbel, hbel2⟩ := hrel
      have HO := Lib.hid hown; clear hown
      have HB := Lib.hid hbel; clear hbel
      have HBB := Lib.hid hbel2; clear hbel2
      by_cases hlt : k < L
      · have hx : k < l.length := by have := HL.out; omega
        obtain ⟨b, o, rfl, hb, h1⟩ := HAT.out k hx
        have hcell : wr.cell? ⟨b, o + k, none⟩ = some (.int .i64 l[k]) := by
          rw [(HBB.out).cell (p := ⟨b, o + k, none⟩) hb, h1]
        clear h1
        have hbs := bas_snoc hx
        have hbl : (bas (l.take k)).length ≤ k := Nat.le_trans (bas_le _) (List.length_take_le _ _)
        have hxr : 0 ≤ l[k] := (sg_iff.mp (HF1.out _ (List.getElem_mem hx))).1
        obtain ⟨x, hxx⟩ : ∃ x, x = l[k] := ⟨_, rfl⟩
        rw [← hxx] at hcell hbs hxr
        clear hxx
        have HBS := Lib.hid hbs; clear hbs
        have hcs : x < 128 ∨ 128 ≤ x := by omega
        rcases hcs with hc | hc
        · go_wp2_with (first
            | (at_builtin; (refine push1 rfl (.tmp 30) (.tmp 36) _ rfl w.heap.size 5 i8 (.int .u8 0) 1 Try.underlying33 hi8 hz8 hz81 hz82 (by decide) _ _ _ (Lib.byteCells (bas (l.take k))) rfl HO.out (.int .u8 x) rfl rfl (by omega) (by decide) (by omega) ?_); intro v2 w3 hown2 hw2 hb2; have HO2 := Lib.hid hown2; clear hown2; have HB2 := Lib.hid hb2; clear hb2)
            | fail)
          go_roundw
          case rel =>
            refine ⟨k + 1, hlt, by simp, ?_, by omega, HB.out.trans HB2.out, HBB.out.trans HB2.out⟩
            rw [HBS.out, if_pos hc, List.length_append, bytes_snoc, b2_of (by omega)]
            exact HO2.out
          case measure => simp [intOf]; omega
        · go_wp2_with fail
          go_roundw
          case rel =>
            refine ⟨k + 1, hlt, by simp, ?_, by omega, HB.out, HBB.out⟩
            rw [HBS.out, if_neg (by omega), List.append_nil]
            exact HO.out
          case measure => simp [intOf]; omega
      · obtain rfl : L = k := by omega
        have e1 : l.take L = l := List.take_of_length_le (by have := HL.out; omega)
        have ho := HO.out
        rw [e1] at ho
        clear HO e1
        obtain ⟨ao, co, hv⟩ := slice_val (Sl.of_own ho)
        rw [Lib.byteCells_length] at hv
        subst hv
        have kc := fun d : Nat => conv_own (w := wr.drewN d) Try.underlying33 Try.underlying5 Try.underlying9 ho
        have hlen := HX.out
        have hex : sA.extract 0 n = bs (bas l) := by
          rw [HSA.out, bs_extract, List.drop_zero, Nat.sub_zero, HN.out, HTK.out]
        have hhy : 0 < n → ∀ hk : n < sA.size, ((sA[n]'hk).toNat : Int) = 45 := by
          intro h0 hk
          rw [str_at HSA.out hk (by have := HAS.out; omega)]
          have := HHY.out (by have := HN.out; omega) (by have := HAS.out; have := HN.out; omega)
          simp only [← HN.out] at this
          rw [this]; rfl
        have hdg : ∀ (k : Nat) (hk : k < sA.size), n + (if n = 0 then 0 else 1) ≤ k → 0 ≤ dgt ((sA[k]'hk).toNat : Int) 36 ∧ (((sA[k]'hk).toNat : Int) ≤ 57 ∨ 97 ≤ ((sA[k]'hk).toNat : Int)) := by
          intro k hk hle
          rw [str_at HSA.out hk (by have := HAS.out; omega)]
          have hd := HDG.out k (by have := HAS.out; omega) (by rw [← HN.out]; exact hle)
          refine ⟨(dgt_dg hd).1, ?_⟩
          unfold isDg at hd
          omega
        rw [← HN.out] at ho kc ⊢
        obtain ⟨F, hF⟩ : ∃ F, F = bas l := ⟨_, rfl⟩
        have hFe : n = 0 → (bs F).toList = [] := by
          intro h0
          rw [toList_bs, hF]
          exact List.eq_nil_of_length_eq_zero (by have := HN.out; omega)
        have HFE := Lib.hid hFe; clear hFe
        rw [← hF] at kc hex
        clear hF ho HTK HHY HDG HX
        have HDG := Lib.hid hdg; clear hdg
        have hfin : ∃ bl : Bool, (decide (n < L) = bl) ∧ (decide (0 < wl) = bl) := by
          have h4 := HP4.out
          have h3 := HP3.out
          refine ⟨_, rfl, decide_eq_decide.mpr ?_⟩
          omega
        obtain ⟨bl, hf1, hf2⟩ := hfin
        have hn0 : n = 0 ∨ 0 < n := by omega
        rcases hn0 with h0 | h0
        · rw [if_pos h0] at hlen
          clear hhy
          subst h0
          have hd9 := HFE.out rfl
          have hd1 : decide ((sA.size : Int) < 0) = false := decide_eq_false (by omega)
          have hd4 : ((bs F).toList == (bs F).toList) = true := by simp
          have hsz : sA.size = 0 + wl := by omega
          have HSZ := Lib.hid hsz; clear hsz hlen
          have HF1 := Lib.hid hf1; clear hf1
          have HF2 := Lib.hid hf2; clear hf2
          go_wp2_with fail
          go_quiet (fail)
          clear hd1 hd4
          have hszb : sA.size ≤ 100000 := by have h3 := HP3.out; have h4 := HSZ.out; omega
          go_wp2_with fail
          go_loopw [9] (fun iv wq => ∃ k : Nat, 0 ≤ k ∧ k ≤ sA.size ∧ iv = .int .i64 k ∧ wq = wr.drewN nq) (fun i _ => sA.size - (intOf i).toNat)
          case atStart => exact ⟨0, Nat.le_refl _, by have := HSZ.out; omega, by simp, rfl⟩
          case round =>
            obtain ⟨k, hk0, hk1, rfl, rfl⟩ := hrel
            by_cases hlt : k < sA.size
            · obtain ⟨hd, hx⟩ := HDG.out k hlt (by simp)
              have hx8 : 0 ≤ ((sA[k]'hlt).toNat : Int) ∧ ((sA[k]'hlt).toNat : Int) < 256 := by have := (sA[k]'hlt).toNat_lt; omega
              have hda := fun W => digitA_any ((sA[k]'hlt).toNat : Int) 36 W hx8 (by omega)
              obtain ⟨D, hD⟩ : ∃ D, D = dgt ((sA[k]'hlt).toNat : Int) 36 := ⟨_, rfl⟩
              rw [← hD] at hda hd
              clear hD
              have HDA := Lib.hid hda; clear hda
              rcases hx with hx | hx
              all_goals
                go_wp2_with (first | (go_at_call 15; refine (HDA.out _).mono ?_; rintro e w2 ⟨rfl, rfl⟩) | fail)
                go_roundw
                case rel => exact ⟨k + 1, by omega, by omega, by simp, trivial⟩
                case measure => simp [intOf]; omega
            · obtain rfl : k = sA.size := by omega
              have hf1 := HF1.out
              have hf2 := HF2.out
              have h3 := HP3.out
              have hsz := HSZ.out
              cases bl
              all_goals
                simp only [decide_eq_true_eq, decide_eq_false_iff_not] at hf1 hf2
                go_wp2_with fail
                go_ret
                exact ⟨ret1_bool (by simp; omega), below_drewN HB.out nq⟩
        · rw [if_neg (by omega)] at hlen
          have hd1 : decide (sA.size < n) = false := decide_eq_false (by omega)
          have hd2 : decide (0 < n) = true := decide_eq_true (by omega)
          have hd3 : n ≤ sA.size := by omega
          have hd7 : n < sA.size := by omega
          have hd5 : IntKind.i64.wrap ((n : Int) + 1) = (n : Int) + 1 := IntWalk.i64_in _ (by omega)
          have hd6 : decide ((sA.size : Int) < (n : Int) + 1) = false := decide_eq_false (by omega)
          have hd8 : decide (sA.size < n + 1) = false := decide_eq_false (by omega)
          have hd4 : ((bs F).toList == (bs F).toList) = true := by simp
          have hsz : sA.size = (n + 1) + wl := by omega
          have HSZ := Lib.hid hsz; clear hsz hlen
          have hk := hhy h0
          clear hhy
          have HF1 := Lib.hid hf1; clear hf1
          have HF2 := Lib.hid hf2; clear hf2
          go_wp2_with fail
          go_quiet (fail)
          clear hd1 hd4
          have hszb : sA.size ≤ 100000 := by have h3 := HP3.out; have h4 := HSZ.out; omega
          go_wp2_with fail
          go_loopw [9] (fun iv wq => ∃ k : Nat, (n + 1) ≤ k ∧ k ≤ sA.size ∧ iv = .int .i64 k ∧ wq = wr.drewN nq) (fun i _ => sA.size - (intOf i).toNat)
          case atStart => exact ⟨(n + 1), Nat.le_refl _, by have := HSZ.out; omega, by simp, rfl⟩
          case round =>
            obtain ⟨k, hk0, hk1, rfl, rfl⟩ := hrel
            by_cases hlt : k < sA.size
            · obtain ⟨hd, hx⟩ := HDG.out k hlt (by rw [if_neg (by omega)]; omega)
              have hx8 : 0 ≤ ((sA[k]'hlt).toNat : Int) ∧ ((sA[k]'hlt).toNat : Int) < 256 := by have := (sA[k]'hlt).toNat_lt; omega
              have hda := fun W => digitA_any ((sA[k]'hlt).toNat : Int) 36 W hx8 (by omega)
              obtain ⟨D, hD⟩ : ∃ D, D = dgt ((sA[k]'hlt).toNat : Int) 36 := ⟨_, rfl⟩
              rw [← hD] at hda hd
              clear hD
              have HDA := Lib.hid hda; clear hda
              rcases hx with hx | hx
              all_goals
                go_wp2_with (first | (go_at_call 15; refine (HDA.out _).mono ?_; rintro e w2 ⟨rfl, rfl⟩) | fail)
                go_roundw
                case rel => exact ⟨k + 1, by omega, by omega, by simp, trivial⟩
                case measure => simp [intOf]; omega
            · obtain rfl : k = sA.size := by omega
              have hf1 := HF1.out
              have hf2 := HF2.out
              have h3 := HP3.out
              have hsz := HSZ.out
              cases bl
              all_goals
                simp only [decide_eq_true_eq, decide_eq_false_iff_not] at hf1 hf2
                go_wp2_with fail
                go_ret
                exact ⟨ret1_bool (by simp; omega), below_drewN HB.out nq⟩
end Go.Proofs.Ytichfpgamlgocaa
