/- The reference's Encode. -/
import Derived.Test.YtledmlgebfbhaaaDoorPunH
namespace Go.Proofs.YtledmlgebfbhaaaDoor
open Go.RowKit
set_option maxRecDepth 10000

set_option maxHeartbeats 4000000 in
theorem rencode_core (l : List Int) (av : Option Addr) (c : Nat) (w : World) (h : Sl w.heap.size w (.slice av l.length c) (I64s l)) (hl : l.length ≤ 255) :
    Calls Tryd.prog 51 #[.slice av l.length c] w fun e w' => e = .returned (.tuple #[S (encR l).1, .bool (encR l).2]) ∧ Below w.heap.size w w' := by
  have hat := slice_at h
  have HAT := Lib.hid hat; clear hat
  obtain ⟨R, hR⟩ : ∃ R, R = encR l := ⟨_, rfl⟩
  rw [← hR]
  have HR := Lib.hid hR; clear hR
  obtain ⟨L, hL⟩ : ∃ L, L = l.length := ⟨_, rfl⟩
  rw [← hL] at h hl ⊢
  have HS := Lib.hid h; clear h
  have HL := Lib.hid hL; clear hL
  go_enter Tryd.func51, Tryd.ntmps51
  go_wp2
  go_loopw [4, 5, 6] (fun sv nv iv wr => ∃ (k : Nat), k ≤ L ∧ iv = .int .i64 k ∧ sv = .string (bs (bas (l.take k))) ∧ nv = .int .i64 (bas (l.take k)).length ∧ (∀ x ∈ l.take k, sg x = true) ∧ w.heap.size ≤ wr.heap.size ∧ Below w.heap.size w wr) (fun _ _ i _ => L - (intOf i).toNat)
  case atStart => exact ⟨0, Nat.zero_le _, rfl, by simp [bas]; rfl, by simp [bas], by simp, Nat.le_refl _, Below.refl _ _⟩
  case round =>
    obtain ⟨k, hk, rfl, rfl, rfl, hall, hwz, hbel⟩ := hrel
    have HA := Lib.hid hall; clear hall
    have HB := Lib.hid hbel; clear hbel
    by_cases hlt : k < L
    · have hx : k < l.length := by have := HL.out; omega
      obtain ⟨b, o, rfl, hb, h1⟩ := HAT.out k hx
      have hcell : wr.cell? ⟨b, o + k, none⟩ = some (.int .i64 l[k]) := by
        rw [(HB.out).cell (p := ⟨b, o + k, none⟩) hb, h1]
      clear h1
      have hmem : l[k] ∈ l := List.getElem_mem hx
      have hbs := bas_snoc hx
      have has := all_snoc hx HA.out
      have hbl : (bas (l.take k)).length ≤ k := Nat.le_trans (bas_le _) (List.length_take_le _ _)
      obtain ⟨x, hxx⟩ : ∃ x, x = l[k] := ⟨_, rfl⟩
      rw [← hxx] at hcell hmem hbs has
      clear hxx
      obtain ⟨bk, hbk⟩ : ∃ bk, bk = bas (l.take k) := ⟨_, rfl⟩
      rw [← hbk] at hbs hbl ⊢
      clear hbk
      have HBS := Lib.hid hbs; clear hbs
      have HAS := Lib.hid has; clear has
      have HM := Lib.hid hmem; clear hmem
      have hsa := fun W => rSign_any x W
      cases hsg : sg x with
      | false =>
        rw [hsg] at hsa
        have HSA := Lib.hid hsa; clear hsa
        have hres := encR_bad HM.out hsg
        have HRE := Lib.hid hres; clear hres hsg
        go_wp2_with (first
          | (go_at_call 70; refine (HSA.out _).mono ?_; rintro e w2 ⟨rfl, rfl⟩)
          | fail)
        go_ret2
        exact ⟨ret2_sb (l := []) (b := false) (by rw [HR.out, HRE.out]), HB.out⟩
      | true =>
        have hsr := sg_iff.mp hsg
        rw [hsg] at hsa
        have HSA := Lib.hid hsa; clear hsa
        have HSG := Lib.hid hsg; clear hsg
        have hcs : x < 128 ∨ 128 ≤ x := by omega
        rcases hcs with hc | hc
        · have kc := conv1 (P := Tryd.prog) Tryd.underlying36 Tryd.underlying5 Tryd.underlying9 x (by omega)
          go_wp2_with (first
            | (go_at_call 70; refine (HSA.out _).mono ?_; rintro e w2 ⟨rfl, rfl⟩)
            | fail)
          go_roundw
          case rel =>
            refine ⟨k + 1, hlt, by simp, ?_, ?_, HAS.out HSG.out, by simp; omega, (HB.out).alloc (by omega) _⟩
            · rw [HBS.out, if_pos hc, bs_app]
            · rw [HBS.out, if_pos hc, List.length_append]; simp
          case measure => simp [intOf]; omega
        · go_wp2_with (first
            | (go_at_call 70; refine (HSA.out _).mono ?_; rintro e w2 ⟨rfl, rfl⟩)
            | fail)
          go_roundw
          case rel =>
            refine ⟨k + 1, hlt, by simp, ?_, ?_, HAS.out HSG.out, by omega, HB.out⟩
            · rw [HBS.out, if_neg (by omega), List.append_nil]
            · rw [HBS.out, if_neg (by omega), List.append_nil]
          case measure => simp [intOf]; omega
    · obtain rfl : L = k := by omega
      have e1 : l.take L = l := List.take_of_length_le (by have := HL.out; omega)
      have hall := HA.out
      rw [e1] at hall ⊢
      have hre := encR_ok (by have := HL.out; omega) hall
      have HRE := Lib.hid hre; clear hre
      have HALL := Lib.hid hall; clear hall
      clear HA e1
      have hnl := bas_le l
      have hnc := bas_len l
      obtain ⟨n, hn⟩ : ∃ n, n = (bas l).length := ⟨_, rfl⟩
      rw [← hn] at hnl hnc ⊢
      have hnl2 : n ≤ L := by have := HL.out; omega
      clear hnl
      obtain ⟨sb, hsb⟩ : ∃ sb, sb = bs (bas l) := ⟨_, rfl⟩
      have hsbz : sb.size = n := by rw [hsb, bs_size, hn]
      have hst0 : n = 0 → sb = bs (bas l ++ hyp (bas l)) := by
        intro h0
        have e : hyp (bas l) = [] := by unfold hyp; rw [if_pos (by rw [← hn]; exact h0)]
        rw [e, List.append_nil, hsb]
      have hst1 : 0 < n → sb ++ ⟨#[45]⟩ = bs (bas l ++ hyp (bas l)) := by
        intro h0
        have e : hyp (bas l) = [45] := by unfold hyp; rw [if_neg (by rw [← hn]; omega)]
        rw [e, hsb, ← bs_app]
        rfl
      rw [← hsb]
      have HN := Lib.hid hn; clear hn hsb
      have HNC := Lib.hid hnc; clear hnc
      have HST0 := Lib.hid hst0; clear hst0
      have HST1 := Lib.hid hst1; clear hst1
      have hsl : (bas l ++ hyp (bas l)).length ≤ n + 1 := by
        rw [List.length_append, ← HN.out]
        unfold hyp
        split <;> simp
      obtain ⟨O, hO⟩ : ∃ O, O = bas l ++ hyp (bas l) := ⟨_, rfl⟩
      have hT : encF l = encGo L l 128 ⟨O, 0, n, 72, true⟩ := by
        have e1 := HN.out
        have e2 := HL.out
        unfold encF
        rw [← e1, ← e2, ← hO]
      rw [← hO] at hsl
      rw [← hO] at HST0 HST1
      clear hO
      have HSL := Lib.hid hsl; clear hsl
      obtain ⟨T, hTT⟩ : ∃ T, T = encF l := ⟨_, rfl⟩
      rw [← hTT] at hT HRE
      have HT := Lib.hid hT; clear hT hTT
      have h0 : n = 0 ∨ 0 < n := by omega
      rcases h0 with rfl | h0
      all_goals
        go_wp2
        go_loopw [4, 5, 7, 8, 9, 10] (fun ov nv bv sv dv fv wq => ∃ (f : Nat) (o : Bytes) (d dn bi : Int) (fi : Bool) (sg : Int), nv = .int .i64 dn ∧ dv = .int .i64 d ∧ sv = .int .i64 sg ∧ bv = .int .i64 bi ∧ fv = .bool fi ∧
          ov = .string (bs o) ∧ encGo f l sg ⟨o, d, dn, bi, fi⟩ = T ∧ dn = cnt l sg ∧ (L : Int) - dn ≤ f ∧ 128 ≤ sg ∧ sg ≤ 1114112 ∧ 0 ≤ d ∧ d ≤ (dn + 1) * 300000000 ∧ 0 ≤ bi ∧ bi ≤ 2400 ∧
          (o.length : Int) ≤ 300 + 41 * dn ∧ w.heap.size ≤ wq.heap.size ∧ Below w.heap.size w wq) (fun _ nv _ _ _ _ _ => L - (intOf nv).toNat)
        case atStart =>
          refine ⟨L, O, 0, _, 72, true, 128, rfl, rfl, rfl, rfl, rfl, ?_, HT.out.symm, by have := HNC.out; omega, by omega, by omega, by omega, by omega, by omega, by omega, by omega, by have := HSL.out; omega, ?_, ?_⟩
          · first | exact congrArg Value.string (HST0.out trivial) | exact congrArg Value.string (HST0.out rfl) | exact congrArg Value.string (HST1.out h0)
          · omega
          · exact HB.out
        case round =>
          obtain ⟨f, o, d, dn, bi, fi, sn, rfl, rfl, rfl, rfl, rfl, rfl, hT, hdn, hf, hsn0, hsn1, hd0, hd1, hbi0, hbi1, hol, hwz, hbel⟩ := hrel
          have HB3 := Lib.hid hbel; clear hbel
          by_cases hlt : dn < L
          · cases f with
            | zero => omega
            | succ g =>
              have hex := cnt_lt (l := l) (sign := sn) (by have := HL.out; omega)
              obtain ⟨hm1, hm2, hm3⟩ := lsF_least (by omega) hex
              have hmore := encGo_more g (l := l) (sign := sn) (o := o) (d := d) (bi := bi) (fi := fi) (dn := dn) (by have := HL.out; omega)
              rw [hmore] at hT
              have hla := fun (W : World) (B : Nat) (v : Value) (h : Sl B W v (I64s l)) => rleast_any l sn v W B h (by have := HL.out; omega)
              have hlr := lsR_eq (l := l) (low := sn) (by omega) (fun c hc => (sg_iff.mp (HALL.out c hc)).2.1) hex
              simp only [hlr] at hla
              clear hlr
              obtain ⟨m, hm⟩ : ∃ m, m = lsF l sn (-1) := ⟨_, rfl⟩
              rw [← hm] at hm1 hm2 hm3 hT hla
              clear hm hmore hex
              have hmr := (sg_iff.mp (HALL.out m hm1)).2.1
              have heq1 := eqs_pos hm1
              have hcn := cnt_succ m l
              rw [cnt_same hm2 hm3, ] at hcn
              have hdn0 : 0 ≤ dn := by omega
              have HDN := Lib.hid hdn; clear hdn
              have HLA := Lib.hid hla; clear hla
              have hmul := mul_bd2 (a := m - sn) (b := dn + 1) (by omega) (by omega)
              have hinv := rowGo_inv m l ⟨o, d + (m - sn) * (dn + 1), dn, bi, fi⟩ (by show 0 ≤ d + _; omega) (by show 0 ≤ dn; omega) ⟨hbi0, hbi1⟩
              have hdl := hinv l.length (Nat.le_refl _)
              rw [List.take_length] at hdl
              obtain ⟨s0, hs0⟩ : ∃ s0 : En, s0 = ⟨o, d + (m - sn) * (dn + 1), dn, bi, fi⟩ := ⟨_, rfl⟩
              rw [← hs0] at hinv hdl hT
              have hs0d : s0.d = d + (m - sn) * (dn + 1) := by rw [hs0]
              have hs0n : s0.done = dn := by rw [hs0]
              have hs0o : s0.out = o := by rw [hs0]
              rw [hs0d, hs0n, hs0o] at hinv hdl
              have HDL := Lib.hid hdl; clear hdl
              have HINV := Lib.hid hinv; clear hinv
              have HTT := Lib.hid hT; clear hT
              have HM3 := Lib.hid hm3; clear hm3 hm1
              have HSL3 := Lib.hid ((HS.out).below HB3.out)
              have HCN := Lib.hid hcn; clear hcn
              go_wp2_with (first
                | (go_at_call 72; refine (HLA.out _ _ _ HSL3.out).mono ?_; rintro e w2 ⟨rfl, rfl⟩)
                | fail)
              have HS0 := Lib.hid hs0; clear hs0 hs0d hs0n hs0o
              have HZ3 := Lib.hid hwz; clear hwz
              go_loopw [4, 5, 7, 9, 10, 12] (fun ov nv bv dv fv iv wz => ∃ (k : Nat) (o' : Bytes) (d' dn' bi' : Int) (fi' : Bool), k ≤ L ∧ iv = .int .i64 k ∧ nv = .int .i64 dn' ∧ dv = .int .i64 d' ∧ bv = .int .i64 bi' ∧ fv = .bool fi' ∧
                ov = .string (bs o') ∧ rowGo m (l.take k) s0 = ⟨o', d', dn', bi', fi'⟩ ∧ w.heap.size ≤ wz.heap.size ∧ Below w.heap.size w wz) (fun _ _ _ _ _ iv _ => L - (intOf iv).toNat)
              case atStart => exact ⟨0, o, d + (m - sn) * (dn + 1), dn, bi, fi, Nat.zero_le _, rfl, rfl, rfl, rfl, rfl, rfl, HS0.out, HZ3.out, HB3.out⟩
              case round =>
                obtain ⟨k, o', d', dn', bi', fi', hk, rfl, rfl, rfl, rfl, rfl, rfl, hrow, hwz, hbel⟩ := hrel
                have HB4 := Lib.hid hbel; clear hbel
                by_cases hlt4 : k < L
                · have hx : k < l.length := by have := HL.out; omega
                  obtain ⟨ba, oa, rfl, hb, h1⟩ := HAT.out k hx
                  have hcell : wr.cell? ⟨ba, oa + k, none⟩ = some (.int .i64 l[k]) := by
                    rw [(HB4.out).cell (p := ⟨ba, oa + k, none⟩) hb, h1]
                  clear h1
                  have hiv := HINV.out k (by omega)
                  rw [hrow] at hiv
                  have hel := eqs_le (l.take k) m
                  have hkl : (l.take k).length ≤ k := List.length_take_le _ _
                  obtain ⟨hi1, hi2, hi3, hi4, hi5, hi6⟩ := hiv
                  simp only at hi1 hi2 hi3 hi4 hi5 hi6
                  have hsn' := rowGo_snoc m hx s0
                  rw [hrow] at hsn'
                  obtain ⟨x, hxx⟩ : ∃ x, x = l[k] := ⟨_, rfl⟩
                  rw [← hxx] at hcell hsn'
                  clear hxx
                  generalize eqs (l.take k) m = q at *
                  have hol' : o'.length ≤ 100000 := by omega
                  have hdb : d' < 1099511627776 := by omega
                  have hdn' : 0 ≤ dn' ∧ dn' ≤ 600 := by omega
                  clear hi2 hi3 hi6 hel hkl hrow
                  have HSN := Lib.hid hsn'; clear hsn'
                  have hcs : x < m ∨ x = m ∨ m < x := by omega
                  rcases hcs with hc | hc | hc
                  · go_wp2
                    go_roundw
                    case rel => exact ⟨k + 1, o', d' + 1, dn', bi', fi', hlt4, by simp, rfl, rfl, rfl, rfl, rfl, by rw [HSN.out, row_less hc], hwz, HB4.out⟩
                    case measure => simp [intOf]; omega
                  · subst hc
                    have hdgl := digs_len d' bi'
                    go_wp2_with (first
                      | (go_at_call 73; refine (letters_any d' bi' _ ⟨hi1, hdb⟩ (by omega)).mono ?_; rintro e w5 ⟨rfl, rfl⟩)
                      | (go_at_call 71; refine (adapt_any d' (dn' + 1) fi' _ (by omega) (by omega)).mono ?_; rintro e w6 ⟨rfl, rfl⟩)
                      | fail)
                    go_roundw
                    case rel => exact ⟨k + 1, o' ++ digs d' bi', 0, dn' + 1, nb d' (dn' + 1) fi', false, hlt4, by simp, rfl, rfl, rfl, rfl, by rw [bs_app], by rw [HSN.out, row_one rfl], hwz, HB4.out⟩
                    case measure => simp [intOf]; omega
                  · go_wp2
                    go_roundw
                    case rel => exact ⟨k + 1, o', d', dn', bi', fi', hlt4, by simp, rfl, rfl, rfl, rfl, rfl, by rw [HSN.out, row_more hc], hwz, HB4.out⟩
                    case measure => simp [intOf]; omega
                · obtain rfl : L = k := by omega
                  rw [List.take_of_length_le (by have := HL.out; omega)] at hrow
                  have hdl := HDL.out
                  have hT := HTT.out
                  rw [hrow] at hdl hT
                  obtain ⟨hi1, hi2, hi3, hi4, hi5, hi6⟩ := hdl
                  simp only at hi1 hi2 hi3 hi4 hi5 hi6 hT
                  have hLl := HL.out
                  rw [← hLl] at hi2
                  have hcn2 := HCN.out
                  have hdn2 := HDN.out
                  have HT5 := Lib.hid hT; clear hT
                  clear hrow hLl
                  have hnew : dn' = cnt l (m + 1) := by omega
                  have hdd : d' + 1 ≤ (dn' + 1) * 300000000 := by omega
                  have hoo : (o'.length : Int) ≤ 300 + 41 * dn' := by omega
                  have hdnl : dn < dn' := by omega
                  have hdnu : dn' ≤ 255 := by have := cnt_le l (m + 1); have := HL.out; omega
                  have HNEW := Lib.hid hnew; clear hnew hi2 hi3 hi6 hcn2 heq1 hmul hdn2
                  have HDD := Lib.hid hdd
                  have HOO := Lib.hid hoo; clear hoo
                  go_wp2
                  go_roundw
                  case rel => exact ⟨g, o', d' + 1, dn', bi', fi', m + 1, rfl, rfl, rfl, rfl, rfl, rfl, HT5.out, HNEW.out, by omega, by omega, by omega, by omega, HDD.out, hi4, hi5, HOO.out, hwz, HB4.out⟩
                  case measure => simp [intOf]; omega
          · rw [encGo_done f (by show ¬ dn < _; have := HL.out; omega)] at hT
            have hT' : o = T := hT
            clear hT
            subst hT'
            go_wp2
            go_ret2
            exact ⟨ret2_sb (by rw [HR.out, HRE.out]), HB3.out⟩

theorem rencode_any (l : List Int) (v : Value) (w : World) (h : Sl w.heap.size w v (I64s l)) :
    Calls Tryd.prog 51 #[v] w fun e w' => e = .returned (.tuple #[S (encR l).1, .bool (encR l).2]) ∧ Below w.heap.size w w' := by
  obtain ⟨av, c, rfl⟩ := slice_val h
  rw [show (I64s l).length = l.length by simp] at h ⊢
  by_cases hl : l.length ≤ 255
  · exact rencode_core l av c w h hl
  · have hr : encR l = ([], false) := by unfold encR; rw [if_pos (.inl (by omega))]
    obtain ⟨R, hR⟩ : ∃ R, R = encR l := ⟨_, rfl⟩
    rw [← hR] at hr ⊢
    have HR := Lib.hid hr; clear hr hR h
    generalize l.length = L at *
    go_enter Tryd.func51, Tryd.ntmps51
    go_wp2
    go_ret2
    exact ⟨ret2_sb (l := []) (b := false) HR.out, Below.refl _ _⟩
end Go.Proofs.YtledmlgebfbhaaaDoor
