/- puny.Encode. -/
import Derived.Test.YtledmlgebfbhaaaDoorPunG
namespace Go.Proofs.YtledmlgebfbhaaaDoor
open Go.RowKit
set_option maxRecDepth 10000

theorem encGo_done (f : Nat) {l : List Int} {sign : Int} {s : En} (h : ¬ s.done < l.length) : encGo f l sign s = s.out := by
  cases f with
  | zero => rfl
  | succ f => unfold encGo; rw [if_neg h]
theorem encGo_more (f : Nat) {l : List Int} {sign : Int} {o : Bytes} {d dn bi : Int} {fi : Bool} (h : dn < l.length) :
    encGo (f + 1) l sign ⟨o, d, dn, bi, fi⟩ = encGo f l (lsF l sign (-1) + 1) ⟨(rowGo (lsF l sign (-1)) l ⟨o, d + (lsF l sign (-1) - sign) * (dn + 1), dn, bi, fi⟩).out, (rowGo (lsF l sign (-1)) l ⟨o, d + (lsF l sign (-1) - sign) * (dn + 1), dn, bi, fi⟩).d + 1,
      (rowGo (lsF l sign (-1)) l ⟨o, d + (lsF l sign (-1) - sign) * (dn + 1), dn, bi, fi⟩).done, (rowGo (lsF l sign (-1)) l ⟨o, d + (lsF l sign (-1) - sign) * (dn + 1), dn, bi, fi⟩).bias, (rowGo (lsF l sign (-1)) l ⟨o, d + (lsF l sign (-1) - sign) * (dn + 1), dn, bi, fi⟩).first⟩ := by
  rw [encGo, if_pos h]
theorem eqs_le (l : List Int) (m : Int) : eqs l m ≤ l.length := List.length_filter_le _ _
theorem bas_snoc {l : List Int} {k : Nat} (h : k < l.length) : bas (l.take (k + 1)) = bas (l.take k) ++ if l[k] < 128 then [UInt8.ofNat l[k].toNat] else [] := by
  rw [List.take_succ_eq_append_getElem h]
  unfold bas
  rw [List.filter_append, List.map_append]
  by_cases h2 : l[k] < 128
  · rw [if_pos h2, List.filter_cons_of_pos (by simpa using h2)]; rfl
  · rw [if_neg h2, List.filter_cons_of_neg (by simpa using h2)]; rfl
theorem bas_len (l : List Int) : (bas l).length = cnt l 128 := by unfold bas cnt; rw [List.length_map]
theorem bas_le (l : List Int) : (bas l).length ≤ l.length := by rw [bas_len]; exact cnt_le l 128
theorem b2_of {c : Int} (h : 0 ≤ c ∧ c < 256) : b2 (UInt8.ofNat c.toNat) = c := by
  unfold b2
  rw [UInt8.toNat_ofNat']
  omega
/-- the text of a row, and is it one -/
def encR (l : List Int) : Bytes × Bool := if 255 < l.length ∨ ¬ l.all sg = true then ([], false) else (encF l, true)
theorem ret2_sb {l : Bytes} {b : Bool} {t : Bytes × Bool} (h : t = (l, b)) : Ending.returned (.tuple #[S l, .bool b]) = .returned (.tuple #[S t.1, .bool t.2]) := by subst h; rfl
theorem all_snoc {l : List Int} {k : Nat} (h : k < l.length) (ha : ∀ c ∈ l.take k, sg c = true) (hx : sg l[k] = true) : ∀ c ∈ l.take (k + 1), sg c = true := by
  rw [List.take_succ_eq_append_getElem h]
  intro c hc
  rcases List.mem_append.mp hc with h | h
  · exact ha c h
  · simp at h; subst h; exact hx
theorem encR_bad {l : List Int} {c : Int} (hc : c ∈ l) (h : sg c = false) : encR l = ([], false) := by
  unfold encR
  rw [if_pos]
  right
  intro ha
  have := List.all_eq_true.mp ha c hc
  rw [h] at this
  exact absurd this (by simp)
theorem encR_ok {l : List Int} (hl : l.length ≤ 255) (h : ∀ c ∈ l, sg c = true) : encR l = (encF l, true) := by
  unfold encR
  rw [if_neg]
  rintro (h1 | h1)
  · omega
  · exact h1 (List.all_eq_true.mpr h)
theorem row_one {sign c : Int} {o : Bytes} {d dn bi : Int} {fi : Bool} (h : c = sign) : rowStep sign c ⟨o, d, dn, bi, fi⟩ = ⟨o ++ digs d bi, 0, dn + 1, nb d (dn + 1) fi, false⟩ := by
  unfold rowStep
  simp only
  rw [if_pos h, if_neg (by omega)]
theorem row_less {sign c : Int} {o : Bytes} {d dn bi : Int} {fi : Bool} (h : c < sign) : rowStep sign c ⟨o, d, dn, bi, fi⟩ = ⟨o, d + 1, dn, bi, fi⟩ := by
  unfold rowStep
  simp only
  rw [if_neg (by omega), if_pos h]
theorem row_more {sign c : Int} {o : Bytes} {d dn bi : Int} {fi : Bool} (h : sign < c) : rowStep sign c ⟨o, d, dn, bi, fi⟩ = ⟨o, d, dn, bi, fi⟩ := by
  unfold rowStep
  simp only
  rw [if_neg (by omega), if_neg (by omega)]
theorem mul_bd2 {a b : Int} (h : 0 ≤ a ∧ a ≤ 1114112) (hb : 1 ≤ b ∧ b ≤ 256) : 0 ≤ a * b ∧ a * b ≤ 285212672 := by
  refine ⟨Int.mul_nonneg h.1 (by omega), ?_⟩
  have h1 : a * b ≤ a * 256 := Int.mul_le_mul_of_nonneg_left hb.2 h.1
  omega

set_option maxHeartbeats 4000000 in
theorem encode_core (l : List Int) (av : Option Addr) (c : Nat) (w : World) (h : Sl w.heap.size w (.slice av l.length c) (I64s l)) (hl : l.length ≤ 255) :
    Calls Tryd.prog 47 #[.slice av l.length c] w fun e w' => e = .returned (.tuple #[S (encR l).1, .bool (encR l).2]) ∧ Below w.heap.size w w' := by
  obtain ⟨i8, hi8, hz8, hz81, hz82⟩ := info_parts u8_info
  have hat := slice_at h
  have HAT := Lib.hid hat; clear hat
  obtain ⟨R, hR⟩ : ∃ R, R = encR l := ⟨_, rfl⟩
  rw [← hR]
  have HR := Lib.hid hR; clear hR
  obtain ⟨L, hL⟩ : ∃ L, L = l.length := ⟨_, rfl⟩
  rw [← hL] at h hl ⊢
  have HS := Lib.hid h; clear h
  have HL := Lib.hid hL; clear hL
  go_enter Tryd.func47, Tryd.ntmps47
  go_wp2
  go_loopw [4, 20] (fun ov iv wr => ∃ (k : Nat), k ≤ L ∧ iv = .int .i64 k ∧ wr.ownsRow w.heap.size 5 1 ov (bas (l.take k)).length (Lib.byteCells (bas (l.take k))) ∧ (∀ x ∈ l.take k, sg x = true) ∧ w.heap.size ≤ wr.heap.size ∧ Below w.heap.size w wr) (fun _ i _ => L - (intOf i).toNat)
  case atStart => exact ⟨0, Nat.zero_le _, rfl, ⟨by simp [bas, Lib.byteCells], .inl ⟨rfl, by simp [bas]⟩⟩, by simp, Nat.le_refl _, Below.refl _ _⟩
  case round =>
    obtain ⟨k, hk, rfl, hown, hall, hwz, hbel⟩ := hrel
    have HO := Lib.hid hown; clear hown
    have HA := Lib.hid hall; clear hall
    have HB := Lib.hid hbel; clear hbel
    by_cases hlt : k < L
    · have hx : k < l.length := by have := HL.out; omega
      obtain ⟨b, o, rfl, hb, h1⟩ := HAT.out k hx
      have hcell : wr.cell? ⟨b, o + k, none⟩ = some (.int .i64 l[k]) := by
        rw [(HB.out).cell (p := ⟨b, o + k, none⟩) hb, h1]
      clear h1
      have hmem : l[k] ∈ l := List.getElem_mem hx
      have hbs := bas_snoc hx
      have has := all_snoc hx HA.out
      have hbl : (bas (l.take k)).length ≤ k := Nat.le_trans (bas_le _) (List.length_take_le _ _)
      obtain ⟨x, hxx⟩ : ∃ x, x = l[k] := ⟨_, rfl⟩
      rw [← hxx] at hcell hmem hbs has
      clear hxx
      have HBS := Lib.hid hbs; clear hbs
      have HAS := Lib.hid has; clear has
      have HM := Lib.hid hmem; clear hmem
      have hsa := fun W => isSign_any x W
      cases hsg : sg x with
      | false =>
        rw [hsg] at hsa
        have HSA := Lib.hid hsa; clear hsa
        have hres := encR_bad HM.out hsg
        have HRE := Lib.hid hres; clear hres hsg
        go_wp2_with (first
          | (go_at_call 40; refine (HSA.out _).mono ?_; rintro e w2 ⟨rfl, rfl⟩)
          | fail)
        go_ret2
        exact ⟨ret2_sb (l := []) (b := false) (by rw [HR.out, HRE.out]), HB.out⟩
      | true =>
        have hsr := sg_iff.mp hsg
        rw [hsg] at hsa
        have HSA := Lib.hid hsa; clear hsa
        have HSG := Lib.hid hsg; clear hsg
        have hcs : x < 128 ∨ 128 ≤ x := by omega
        rcases hcs with hc | hc
        · go_wp2_with (first
            | (go_at_call 40; refine (HSA.out _).mono ?_; rintro e w2 ⟨rfl, rfl⟩)
            | (at_builtin; (refine push1 rfl (.tmp 29) (.tmp 32) _ rfl w.heap.size 5 i8 (.int .u8 0) 1 Tryd.underlying36 hi8 hz8 hz81 hz82 (by decide) _ _ _ (Lib.byteCells (bas (l.take k))) rfl HO.out (.int .u8 x) rfl rfl (by omega) (by decide) (by omega) ?_); intro v2 w2 hown2 hw2 hb2; have HO2 := Lib.hid hown2; clear hown2; have HB2 := Lib.hid hb2; clear hb2))
          go_roundw
          case rel =>
            refine ⟨k + 1, hlt, by simp, ?_, HAS.out HSG.out, by omega, HB.out.trans HB2.out⟩
            rw [HBS.out, if_pos hc, List.length_append, bytes_snoc, b2_of (by omega)]
            exact HO2.out
          case measure => simp [intOf]; omega
        · go_wp2_with (first
            | (go_at_call 40; refine (HSA.out _).mono ?_; rintro e w2 ⟨rfl, rfl⟩)
            | fail)
          go_roundw
          case rel =>
            refine ⟨k + 1, hlt, by simp, ?_, HAS.out HSG.out, by omega, HB.out⟩
            rw [HBS.out, if_neg (by omega), List.append_nil]
            exact HO.out
          case measure => simp [intOf]; omega
    · obtain rfl : L = k := by omega
      have e1 : l.take L = l := List.take_of_length_le (by have := HL.out; omega)
      have ho := HO.out
      have hall := HA.out
      rw [e1] at ho hall
      have hre := encR_ok (by have := HL.out; omega) hall
      have HRE := Lib.hid hre; clear hre
      have HALL := Lib.hid hall; clear hall
      clear HO HA e1
      obtain ⟨ao, co, hv⟩ := slice_val (Sl.of_own ho)
      rw [Lib.byteCells_length] at hv
      subst hv
      have hnl := bas_le l
      have hnc := bas_len l
      obtain ⟨n, hn⟩ : ∃ n, n = (bas l).length := ⟨_, rfl⟩
      rw [← hn] at ho hnl hnc ⊢
      have hnl2 : n ≤ L := by have := HL.out; omega
      clear hnl
      have HN := Lib.hid hn; clear hn
      have HNC := Lib.hid hnc; clear hnc
      have HO := Lib.hid ho; clear ho
      have hst0 : n = 0 → wr.ownsRow w.heap.size 5 1 (.slice ao n co) (bas l ++ hyp (bas l)).length (Lib.byteCells (bas l ++ hyp (bas l))) := by
        intro h0
        have e : hyp (bas l) = [] := by unfold hyp; rw [if_pos (by rw [← HN.out]; exact h0)]
        rw [e, List.append_nil, ← HN.out]
        exact HO.out
      have hst1 : 0 < n → ∀ (v2 : Value) (w2 : World), w2.ownsRow w.heap.size 5 1 v2 (n + 1) (Lib.byteCells (bas l) ++ [.int .u8 45]) → w2.ownsRow w.heap.size 5 1 v2 (bas l ++ hyp (bas l)).length (Lib.byteCells (bas l ++ hyp (bas l))) := by
        intro h0 v2 w2 h2
        have e : hyp (bas l) = [45] := by unfold hyp; rw [if_neg (by rw [← HN.out]; omega)]
        rw [e, List.length_append, bytes_snoc, ← HN.out]
        exact h2
      have HST0 := Lib.hid hst0; clear hst0
      have HST1 := Lib.hid hst1; clear hst1
      have hsl : (bas l ++ hyp (bas l)).length ≤ n + 1 := by
        rw [List.length_append, ← HN.out]
        unfold hyp
        split <;> simp
      obtain ⟨O, hO⟩ : ∃ O, O = bas l ++ hyp (bas l) := ⟨_, rfl⟩
      have hT : encF l = encGo L l 128 ⟨O, 0, n, 72, true⟩ := by
        have e1 := HN.out
        have e2 := HL.out
        unfold encF
        rw [← e1, ← e2, ← hO]
      rw [← hO] at hsl
      rw [← hO] at HST0 HST1
      clear hO
      have HSL := Lib.hid hsl; clear hsl
      obtain ⟨T, hTT⟩ : ∃ T, T = encF l := ⟨_, rfl⟩
      rw [← hTT] at hT HRE
      have HT := Lib.hid hT; clear hT hTT
      have h0 : n = 0 ∨ 0 < n := by omega
      rcases h0 with rfl | h0
      all_goals
        go_wp2_with (at_builtin; (refine push1 rfl (.tmp 39) (.tmp 40) _ rfl w.heap.size 5 i8 (.int .u8 0) 1 Tryd.underlying36 hi8 hz8 hz81 hz82 (by decide) _ _ _ (Lib.byteCells (bas l)) rfl HO.out (.int .u8 45) rfl rfl (by omega) (by decide) (by omega) ?_); intro v2 w2 hown2 hw2 hb2; have HO2 := Lib.hid hown2; clear hown2; have HB2 := Lib.hid hb2; clear hb2)
        go_loopw [4, 7, 8, 9, 10, 11] (fun ov nv dv sv bv fv wq => ∃ (f : Nat) (o : Bytes) (d dn bi : Int) (fi : Bool) (sg : Int), nv = .int .i64 dn ∧ dv = .int .i64 d ∧ sv = .int .i64 sg ∧ bv = .int .i64 bi ∧ fv = .bool fi ∧
          wq.ownsRow w.heap.size 5 1 ov o.length (Lib.byteCells o) ∧ encGo f l sg ⟨o, d, dn, bi, fi⟩ = T ∧ dn = cnt l sg ∧ (L : Int) - dn ≤ f ∧ 128 ≤ sg ∧ sg ≤ 1114112 ∧ 0 ≤ d ∧ d ≤ (dn + 1) * 300000000 ∧ 0 ≤ bi ∧ bi ≤ 2400 ∧
          (o.length : Int) ≤ 300 + 41 * dn ∧ w.heap.size ≤ wq.heap.size ∧ Below w.heap.size w wq) (fun _ nv _ _ _ _ _ => L - (intOf nv).toNat)
        case atStart =>
          refine ⟨L, O, 0, _, 72, true, 128, rfl, rfl, rfl, rfl, rfl, ?_, HT.out.symm, by have := HNC.out; omega, by omega, by omega, by omega, by omega, by omega, by omega, by omega, by have := HSL.out; omega, ?_, ?_⟩
          · first | exact HST0.out trivial | exact HST0.out rfl | exact HST1.out h0 _ _ HO2.out
          · omega
          · first | exact HB.out | exact HB.out.trans HB2.out
        case round =>
          obtain ⟨f, o, d, dn, bi, fi, sn, rfl, rfl, rfl, rfl, rfl, hown, hT, hdn, hf, hsn0, hsn1, hd0, hd1, hbi0, hbi1, hol, hwz, hbel⟩ := hrel
          have HO3 := Lib.hid hown; clear hown
          have HB3 := Lib.hid hbel; clear hbel
          by_cases hlt : dn < L
          · cases f with
            | zero => omega
            | succ g =>
              have hex := cnt_lt (l := l) (sign := sn) (by have := HL.out; omega)
              obtain ⟨hm1, hm2, hm3⟩ := lsF_least (by omega) hex
              have hmore := encGo_more g (l := l) (sign := sn) (o := o) (d := d) (bi := bi) (fi := fi) (dn := dn) (by have := HL.out; omega)
              rw [hmore] at hT
              have hla := fun (W : World) (B : Nat) (v : Value) (h : Sl B W v (I64s l)) => least_any l sn v W B h (by have := HL.out; omega)
              obtain ⟨m, hm⟩ : ∃ m, m = lsF l sn (-1) := ⟨_, rfl⟩
              rw [← hm] at hm1 hm2 hm3 hT hla
              clear hm hmore hex
              have hmr := (sg_iff.mp (HALL.out m hm1)).2.1
              have heq1 := eqs_pos hm1
              have hcn := cnt_succ m l
              rw [cnt_same hm2 hm3, ] at hcn
              have hdn0 : 0 ≤ dn := by omega
              have HDN := Lib.hid hdn; clear hdn
              have HLA := Lib.hid hla; clear hla
              have hmul := mul_bd2 (a := m - sn) (b := dn + 1) (by omega) (by omega)
              have hinv := rowGo_inv m l ⟨o, d + (m - sn) * (dn + 1), dn, bi, fi⟩ (by show 0 ≤ d + _; omega) (by show 0 ≤ dn; omega) ⟨hbi0, hbi1⟩
              have hdl := hinv l.length (Nat.le_refl _)
              rw [List.take_length] at hdl
              obtain ⟨s0, hs0⟩ : ∃ s0 : En, s0 = ⟨o, d + (m - sn) * (dn + 1), dn, bi, fi⟩ := ⟨_, rfl⟩
              rw [← hs0] at hinv hdl hT
              have hs0d : s0.d = d + (m - sn) * (dn + 1) := by rw [hs0]
              have hs0n : s0.done = dn := by rw [hs0]
              have hs0o : s0.out = o := by rw [hs0]
              rw [hs0d, hs0n, hs0o] at hinv hdl
              have HDL := Lib.hid hdl; clear hdl
              have HINV := Lib.hid hinv; clear hinv
              have HTT := Lib.hid hT; clear hT
              have HM3 := Lib.hid hm3; clear hm3 hm1
              have HSL3 := Lib.hid ((HS.out).below HB3.out)
              have HCN := Lib.hid hcn; clear hcn
              go_wp2_with (first
                | (go_at_call 65; refine (HLA.out _ _ _ HSL3.out).mono ?_; rintro e w2 ⟨rfl, rfl⟩)
                | fail)
              have HS0 := Lib.hid hs0; clear hs0 hs0d hs0n hs0o
              have HZ3 := Lib.hid hwz; clear hwz
              go_loopw [4, 7, 8, 10, 11, 60] (fun ov nv dv bv fv iv wz => ∃ (k : Nat) (o' : Bytes) (d' dn' bi' : Int) (fi' : Bool), k ≤ L ∧ iv = .int .i64 k ∧ nv = .int .i64 dn' ∧ dv = .int .i64 d' ∧ bv = .int .i64 bi' ∧ fv = .bool fi' ∧
                wz.ownsRow w.heap.size 5 1 ov o'.length (Lib.byteCells o') ∧ rowGo m (l.take k) s0 = ⟨o', d', dn', bi', fi'⟩ ∧ w.heap.size ≤ wz.heap.size ∧ Below w.heap.size w wz) (fun _ _ _ _ _ iv _ => L - (intOf iv).toNat)
              case atStart => exact ⟨0, o, d + (m - sn) * (dn + 1), dn, bi, fi, Nat.zero_le _, rfl, rfl, rfl, rfl, rfl, HO3.out, HS0.out, HZ3.out, HB3.out⟩
              case round =>
                obtain ⟨k, o', d', dn', bi', fi', hk, rfl, rfl, rfl, rfl, rfl, hown, hrow, hwz, hbel⟩ := hrel
                have HO4 := Lib.hid hown; clear hown
                have HB4 := Lib.hid hbel; clear hbel
                by_cases hlt4 : k < L
                · have hx : k < l.length := by have := HL.out; omega
                  obtain ⟨ba, oa, rfl, hb, h1⟩ := HAT.out k hx
                  have hcell : wr.cell? ⟨ba, oa + k, none⟩ = some (.int .i64 l[k]) := by
                    rw [(HB4.out).cell (p := ⟨ba, oa + k, none⟩) hb, h1]
                  clear h1
                  have hiv := HINV.out k (by omega)
                  rw [hrow] at hiv
                  have hel := eqs_le (l.take k) m
                  have hkl : (l.take k).length ≤ k := List.length_take_le _ _
                  obtain ⟨hi1, hi2, hi3, hi4, hi5, hi6⟩ := hiv
                  simp only at hi1 hi2 hi3 hi4 hi5 hi6
                  have hsn' := rowGo_snoc m hx s0
                  rw [hrow] at hsn'
                  obtain ⟨x, hxx⟩ : ∃ x, x = l[k] := ⟨_, rfl⟩
                  rw [← hxx] at hcell hsn'
                  clear hxx
                  generalize eqs (l.take k) m = q at *
                  have hol' : o'.length ≤ 100000 := by omega
                  have hdb : d' < 1099511627776 := by omega
                  have hdn' : 0 ≤ dn' ∧ dn' ≤ 600 := by omega
                  clear hi2 hi3 hi6 hel hkl hrow
                  have HSN := Lib.hid hsn'; clear hsn'
                  have hcs : x < m ∨ x = m ∨ m < x := by omega
                  rcases hcs with hc | hc | hc
                  · go_wp2
                    go_roundw
                    case rel => exact ⟨k + 1, o', d' + 1, dn', bi', fi', hlt4, by simp, rfl, rfl, rfl, rfl, HO4.out, by rw [HSN.out, row_less hc], hwz, HB4.out⟩
                    case measure => simp [intOf]; omega
                  · subst hc
                    go_wp2_with (first
                      | (go_at_call 66; refine (write_any _ o' d' bi' w.heap.size _ HO4.out (by omega) hwz ⟨hi1, hdb⟩ (by omega)).mono ?_; rintro e w5 ⟨v5, rfl, hown5, hz5, hb5⟩; have HO5 := Lib.hid hown5; clear hown5; have HB5 := Lib.hid hb5; clear hb5; have HZ5 := Lib.hid hz5; clear hz5)
                      | (go_at_call 42; refine (nextBias_any d' (dn' + 1) fi' _ (by omega) (by omega)).mono ?_; rintro e w6 ⟨rfl, rfl⟩)
                      | fail)
                    go_roundw
                    case rel => exact ⟨k + 1, o' ++ digs d' bi', 0, dn' + 1, nb d' (dn' + 1) fi', false, hlt4, by simp, rfl, rfl, rfl, rfl, HO5.out, by rw [HSN.out, row_one rfl], by have := HZ5.out; omega, HB4.out.trans HB5.out⟩
                    case measure => simp [intOf]; omega
                  · go_wp2
                    go_roundw
                    case rel => exact ⟨k + 1, o', d', dn', bi', fi', hlt4, by simp, rfl, rfl, rfl, rfl, HO4.out, by rw [HSN.out, row_more hc], hwz, HB4.out⟩
                    case measure => simp [intOf]; omega
                · obtain rfl : L = k := by omega
                  rw [List.take_of_length_le (by have := HL.out; omega)] at hrow
                  have hdl := HDL.out
                  have hT := HTT.out
                  rw [hrow] at hdl hT
                  obtain ⟨hi1, hi2, hi3, hi4, hi5, hi6⟩ := hdl
                  simp only at hi1 hi2 hi3 hi4 hi5 hi6 hT
                  have hLl := HL.out
                  rw [← hLl] at hi2
                  have hcn2 := HCN.out
                  have hdn2 := HDN.out
                  have HT5 := Lib.hid hT; clear hT
                  clear hrow hLl
                  have hnew : dn' = cnt l (m + 1) := by omega
                  have hdd : d' + 1 ≤ (dn' + 1) * 300000000 := by omega
                  have hoo : (o'.length : Int) ≤ 300 + 41 * dn' := by omega
                  have hdnl : dn < dn' := by omega
                  have hdnu : dn' ≤ 255 := by have := cnt_le l (m + 1); have := HL.out; omega
                  have HNEW := Lib.hid hnew; clear hnew hi2 hi3 hi6 hcn2 heq1 hmul hdn2
                  have HDD := Lib.hid hdd
                  have HOO := Lib.hid hoo; clear hoo
                  go_wp2
                  go_roundw
                  case rel => exact ⟨g, o', d' + 1, dn', bi', fi', m + 1, rfl, rfl, rfl, rfl, rfl, HO4.out, HT5.out, HNEW.out, by omega, by omega, by omega, by omega, HDD.out, hi4, hi5, HOO.out, hwz, HB4.out⟩
                  case measure => simp [intOf]; omega
          · rw [encGo_done f (by show ¬ dn < _; have := HL.out; omega)] at hT
            have hT' : o = T := hT
            clear hT
            have kc := conv_own Tryd.underlying36 Tryd.underlying5 Tryd.underlying9 HO3.out
            rw [hT'] at kc
            have HTO := Lib.hid hT'; clear hT'
            have KC := Lib.hid kc; clear kc
            have kc := KC.out
            go_wp2
            go_ret2
            exact ⟨ret2_sb (by rw [HR.out, HRE.out]), HB3.out⟩

theorem encode_any (l : List Int) (v : Value) (w : World) (h : Sl w.heap.size w v (I64s l)) :
    Calls Tryd.prog 47 #[v] w fun e w' => e = .returned (.tuple #[S (encR l).1, .bool (encR l).2]) ∧ Below w.heap.size w w' := by
  obtain ⟨av, c, rfl⟩ := slice_val h
  rw [show (I64s l).length = l.length by simp] at h ⊢
  by_cases hl : l.length ≤ 255
  · exact encode_core l av c w h hl
  · have hr : encR l = ([], false) := by unfold encR; rw [if_pos (.inl (by omega))]
    obtain ⟨R, hR⟩ : ∃ R, R = encR l := ⟨_, rfl⟩
    rw [← hR] at hr ⊢
    have HR := Lib.hid hr; clear hr hR h
    generalize l.length = L at *
    go_enter Tryd.func47, Tryd.ntmps47
    go_wp2
    go_ret2
    exact ⟨ret2_sb (l := []) (b := false) HR.out, Below.refl _ _⟩
end Go.Proofs.YtledmlgebfbhaaaDoor
