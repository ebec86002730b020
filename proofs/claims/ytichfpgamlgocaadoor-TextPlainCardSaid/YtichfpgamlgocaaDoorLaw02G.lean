/- The walk of TextPlain. -/
import Derived.Test.YtichfpgamlgocaaDoorLaw02F
namespace Go.Proofs.YtichfpgamlgocaaDoor
open Go.RowKit
set_option linter.unusedSimpArgs false

theorem filt_step {α : Type} {f : α → Bool} {T : List α} {k : Nat} (hk : k < T.length) : (T.take (k + 1)).filter f = (T.take k).filter f ++ (if f T[k] then [T[k]] else []) := by
  rw [List.take_succ_eq_append_getElem hk, List.filter_append]
  congr 1
  by_cases h : f T[k] <;> simp [h]
theorem filt_at {α : Type} {f : α → Bool} {T : List α} {k : Nat} (hk : k < T.length) (hf : f T[k] = true) : (T.filter f)[((T.take k).filter f).length]? = some T[k] := by
  have h : T = T.take k ++ T[k] :: T.drop (k + 1) := by rw [← List.drop_eq_getElem_cons hk, List.take_append_drop]
  have h2 : T.filter f = (T.take k).filter f ++ T[k] :: (T.drop (k + 1)).filter f := by
    conv => lhs; rw [h]
    rw [List.filter_append, List.filter_cons_of_pos hf]
  rw [h2, List.getElem?_append_right (Nat.le_refl _)]
  simp
theorem filt_len {α : Type} {f : α → Bool} (T : List α) (k : Nat) : ((T.take k).filter f).length ≤ k := Nat.le_trans (List.length_filter_le _ _) (List.length_take_le _ _)
theorem bytes_snoc (l : Bytes) (y : UInt8) : Lib.byteCells (l ++ [y]) = Lib.byteCells l ++ [.int .u8 (b2 y)] := by simp [Lib.byteCells, b2]
theorem str_at {s : ByteArray} {X : Bytes} (h : s = bs X) {k : Nat} (hk : k < s.size) (hx : k < X.length) : ((s[k]'hk).toNat : Int) = b2 X[k] := by
  subst h
  rfl
/-- what stands at the place where the next sign below 80 is told -/
theorem plain_at {l : Bytes} {T : List Int} (hT : T = signs l) {k : Nat} (hk : k < T.length) (hf : 0 ≤ T[k] ∧ T[k] < 128) :
    ∃ h : ((T.take k).filter ascS).length < (l.filter asc).length, b2 (l.filter asc)[((T.take k).filter ascS).length] = T[k] := by
  have h := filt_at (f := ascS) hk (by unfold ascS; exact decide_eq_true hf)
  subst hT
  rw [filter_signs, List.getElem?_map] at h
  have hlt : (((signs l).take k).filter ascS).length < (l.filter asc).length := by
    cases hq : (l.filter asc)[(((signs l).take k).filter ascS).length]? with
    | none => rw [hq] at h; simp at h
    | some y => exact (List.getElem?_eq_some_iff.mp hq).1
  refine ⟨hlt, ?_⟩
  rw [List.getElem?_eq_getElem hlt] at h
  simpa using h

set_option maxRecDepth 4000 in
set_option maxHeartbeats 2000000 in
theorem textPlain_core (l : Bytes) (av : Option Addr) (c : Nat) (w : World) (hsl : Sl w.heap.size w (.slice av l.length c) (Lib.byteCells l)) (hl : l.length ≤ 1000) (hT : Tabs w) :
    Calls Tryd.prog 8 #[.slice av l.length c] w fun e w' => e = .returned (.bool true) ∧ Below w.heap.size w w' := by
  have hat := slice_atb hsl
  obtain ⟨i8, hi8, hz8, hz81, hz82⟩ := info_parts u8_info
  have HLL := Lib.hid hl
  have HT := Lib.hid hT; clear hT
  have HAT := Lib.hid hat; clear hat
  obtain ⟨L, hL⟩ : ∃ L, L = l.length := ⟨_, rfl⟩
  rw [← hL] at hsl hl ⊢
  have HS0 := Lib.hid hsl; clear hsl
  have HL := Lib.hid hL; clear hL
  go_enter Tryd.func8, Tryd.ntmps8
  go_wp2_with fail
  refine (small_any _ HT.out).mono ?_
  rintro e w1 ⟨rfl, hb1⟩
  have HB1 := Lib.hid hb1; clear hb1
  go_wp2_with fail
  refine (decode_any l _ _ (((HS0.out).below HB1.out).more (HB1.out).size) (by have := HLL.out; omega) (HT.out.below HB1.out)).mono ?_
  rintro e w2 ⟨rfl, hb2⟩
  have HB2 := Lib.hid (HB1.out.trans (hb2.mono HB1.out.size)); clear hb2 HB1
  obtain ⟨X, hX⟩ : ∃ X, X = decT l := ⟨_, rfl⟩
  have hXl : X.length ≤ 3000 := by have := decT_len _ l (Nat.le_refl _); have := HLL.out; rw [hX]; omega
  have hXf : X.filter asc = l.filter asc := by rw [hX, decT_eq, filter_rdec]
  obtain ⟨sx, hsx⟩ : ∃ sx, sx = bs X := ⟨_, rfl⟩
  obtain ⟨N, hN⟩ : ∃ N, N = X.length := ⟨_, rfl⟩
  have hXL : sx.size = N := by rw [hsx, hN]; exact bs_size X
  rw [← hN] at hXl
  have HN := Lib.hid hN; clear hN
  rw [show S (decT l) = Value.string sx by rw [hsx, hX]]
  have HSX := Lib.hid hsx; clear hsx hX
  have HXF := Lib.hid hXf; clear hXf
  have kc := conv_any Tryd.underlying22 Tryd.underlying5 Tryd.underlying9 (((HS0.out).below HB2.out))
  go_wp2_with fail
  refine (signsT_any _ _ (by rw [bs_size]; have := HLL.out; omega) (HT.out.below HB2.out)).mono ?_
  rintro e w3 ⟨v3, rfl, ho3, hb3⟩
  rw [ls_bs, runes_decT] at ho3
  obtain ⟨T, hTT⟩ : ∃ T, T = signs l := ⟨_, rfl⟩
  rw [← hTT] at ho3
  have htl : T.length ≤ l.length := by rw [hTT]; exact signs_len _ l (Nat.le_refl _)
  have HTT := Lib.hid hTT; clear hTT
  have hs3 : Sl w3.heap.size w3 v3 (I64s T) := Sl.of_own ho3
  obtain ⟨at3, ct3, rfl⟩ := slice_val hs3
  rw [show (I64s T).length = T.length by simp] at hs3 ⊢
  obtain ⟨TL, hTL⟩ : ∃ TL, TL = T.length := ⟨_, rfl⟩
  have htl2 : TL ≤ L := by rw [hTL, HL.out]; exact htl
  rw [← hTL] at hs3 ⊢
  have HTL := Lib.hid hTL; clear hTL htl
  have HS3 := Lib.hid hs3; clear hs3 ho3
  have HB3 := Lib.hid (HB2.out.trans (hb3.mono HB2.out.size)); clear hb3 kc
  have hz3 := HB3.out.size
  clear HB2
  go_wp2
  go_loopw [6, 7] (fun out i wr => ∃ (k : Nat), k ≤ L ∧ i = .int .i64 k ∧ wr.ownsRow w3.heap.size 5 1 out ((l.take k).filter asc).length (Lib.byteCells ((l.take k).filter asc)) ∧
      w3.heap.size ≤ wr.heap.size ∧ Below w3.heap.size w3 wr) (fun _ i _ => L - (intOf i).toNat)
  case atStart => exact ⟨0, by omega, rfl, ⟨by simp [Lib.byteCells], .inl ⟨rfl, by simp⟩⟩, Nat.le_refl _, Below.refl _ _⟩
  case round =>
    obtain ⟨k, hk, rfl, hown, hwz, hbel⟩ := hrel
    have HO := Lib.hid hown; clear hown
    have HB := Lib.hid hbel; clear hbel
    by_cases hlt : k < L
    · have hx : k < l.length := by have := HL.out; omega
      obtain ⟨b, o, rfl, hb, h1⟩ := HAT.out k hx
      have hcell : wr.cell? ⟨b, o + k, none⟩ = some (.int .u8 (b2 l[k])) := by
        rw [(HB.out).cell (p := ⟨b, o + k, none⟩) (Nat.lt_of_lt_of_le hb hz3), (HB3.out).cell (p := ⟨b, o + k, none⟩) hb, h1]
      clear h1
      have hfl := filt_len (f := asc) l k
      have hst := filt_step (f := asc) hx
      have hcs : b2 l[k] < 128 ∨ 128 ≤ b2 l[k] := by omega
      obtain ⟨x, hxx⟩ : ∃ x, x = l[k] := ⟨_, rfl⟩
      rw [← hxx] at hcell hcs hst
      clear hxx
      have HST := Lib.hid hst; clear hst
      obtain ⟨y, hy⟩ : ∃ y, y = b2 x := ⟨_, rfl⟩
      rw [← hy] at hcell hcs
      have HY := Lib.hid hy; clear hy
      rcases hcs with hc | hc
      · go_wp2_with (at_builtin; (refine push1 rfl (.tmp 33) (.tmp 38) _ rfl w3.heap.size 5 i8 (.int .u8 0) 1 Tryd.underlying22 hi8 hz8 hz81 hz82 (by decide) _ _ _ (Lib.byteCells ((l.take k).filter asc)) rfl HO.out (.int .u8 y) rfl rfl (by omega) (by decide) hwz ?_); intro v2 w2 hown2 hw2 hb2; have HO2 := Lib.hid hown2; clear hown2; have HB2 := Lib.hid hb2; clear hb2)
        go_roundw
        case rel =>
          refine ⟨k + 1, hlt, by simp, ?_, by omega, HB.out.trans HB2.out⟩
          have e1 : asc x = true := by unfold asc; rw [← HY.out]; exact decide_eq_true hc
          rw [HST.out, e1, if_pos rfl, List.length_append, bytes_snoc, ← HY.out]
          exact HO2.out
        case measure => simp [intOf]; omega
      · go_wp2
        go_roundw
        case rel =>
          refine ⟨k + 1, hlt, by simp, ?_, by omega, HB.out⟩
          have e1 : asc x = false := by unfold asc; rw [← HY.out]; exact decide_eq_false (by omega)
          rw [HST.out, e1, if_neg (by simp), List.append_nil]
          exact HO.out
        case measure => simp [intOf]; omega
    · obtain rfl : L = k := by omega
      have e1 : l.take L = l := List.take_of_length_le (by have := HL.out; omega)
      have ho := HO.out
      rw [e1] at ho
      have HP := Lib.hid ho; clear ho
      clear HO e1
      have HBW := Lib.hid ((HB3.out).trans ((HB.out).mono hz3))
      have hsw := HBW.out.size
      have HSW := Lib.hid (((HS3.out).below HB.out).more hwz); clear HS3
      clear HB
      go_wp2
      go_loopw [8, 9] (fun out i wq => ∃ (k : Nat), k ≤ N ∧ i = .int .i64 k ∧ wq.ownsRow wr.heap.size 5 1 out ((X.take k).filter asc).length (Lib.byteCells ((X.take k).filter asc)) ∧
          wr.heap.size ≤ wq.heap.size ∧ Below wr.heap.size wr wq) (fun _ i _ => N - (intOf i).toNat)
      case atStart => exact ⟨0, by omega, rfl, ⟨by simp [Lib.byteCells], .inl ⟨rfl, by simp⟩⟩, Nat.le_refl _, Below.refl _ _⟩
      case round =>
        obtain ⟨k, hk, rfl, hown, hwz2, hbel⟩ := hrel
        have HO := Lib.hid hown; clear hown
        have HB := Lib.hid hbel; clear hbel
        by_cases hlt : k < N
        · have hk2 : k < sx.size := by omega
          have hx : k < X.length := by have := HN.out; omega
          have hfl := filt_len (f := asc) X k
          have hst := filt_step (f := asc) hx
          have hxe : ((sx[k]'hk2).toNat : Int) = b2 X[k] := str_at HSX.out hk2 hx
          have hcs : ((sx[k]'hk2).toNat : Int) < 128 ∨ 128 ≤ ((sx[k]'hk2).toNat : Int) := by omega
          obtain ⟨x, hxx⟩ : ∃ x, x = X[k] := ⟨_, rfl⟩
          rw [← hxx] at hst hxe
          clear hxx
          have HST := Lib.hid hst; clear hst
          have HXE := Lib.hid hxe; clear hxe
          rcases hcs with hc | hc
          · go_wp2_with (at_builtin; (refine push1 rfl (.tmp 50) (.tmp 54) _ rfl _ 5 i8 (.int .u8 0) 1 Tryd.underlying22 hi8 hz8 hz81 hz82 (by decide) _ _ _ (Lib.byteCells ((X.take k).filter asc)) rfl HO.out (.int .u8 ((sx[k]'hk2).toNat : Int)) rfl rfl (by omega) (by decide) hwz2 ?_); intro v2 w2 hown2 hw2 hb2; have HO2 := Lib.hid hown2; clear hown2; have HB2 := Lib.hid hb2; clear hb2)
            go_roundw
            case rel =>
              refine ⟨k + 1, hlt, by simp, ?_, by omega, HB.out.trans HB2.out⟩
              have e1 : asc x = true := by unfold asc; rw [← HXE.out]; exact decide_eq_true hc
              rw [HST.out, e1, if_pos rfl, List.length_append, bytes_snoc, ← HXE.out]
              exact HO2.out
            case measure => simp [intOf]; omega
          · go_wp2
            go_roundw
            case rel =>
              refine ⟨k + 1, hlt, by simp, ?_, by omega, HB.out⟩
              have e1 : asc x = false := by unfold asc; rw [← HXE.out]; exact decide_eq_false (by omega)
              rw [HST.out, e1, if_neg (by simp), List.append_nil]
              exact HO.out
            case measure => simp [intOf]; omega
        · obtain rfl : N = k := by omega
          have e1 : X.take N = X := List.take_of_length_le (by have := HN.out; omega)
          have ho := HO.out
          rw [e1, HXF.out] at ho
          have HQ := Lib.hid ho; clear ho
          clear HO e1
          have HPP := Lib.hid (own_below HP.out HB.out)
          have HBV := Lib.hid ((HBW.out).trans ((HB.out).mono hsw))
          have HSV := Lib.hid (((HSW.out).below HB.out).more hwz2); clear HSW
          clear HB
          have hPl : (l.filter asc).length ≤ 1000 := by have := List.length_filter_le asc l; have := HLL.out; omega
          obtain ⟨P, hP⟩ : ∃ P, P = l.filter asc := ⟨_, rfl⟩
          obtain ⟨pl, hpl⟩ : ∃ pl, pl = (l.filter asc).length := ⟨_, rfl⟩
          rw [← hpl] at hPl
          have hsp := Sl.of_own HPP.out
          obtain ⟨ap, cp, hv⟩ := slice_val hsp
          subst hv
          rw [Lib.byteCells_length, ← hpl] at hsp
          rw [Lib.byteCells_length, ← hpl]
          have hq := HQ.out
          rw [← hpl, ← hP] at hq
          rw [← hP] at hsp
          have kp : ∀ d, (convert 22 9 (.slice ap pl cp)).run Tryd.prog (wr.drewN d) = .ok (.string (bs P)) (wr.drewN d) := fun d =>
            conv_any Tryd.underlying22 Tryd.underlying5 Tryd.underlying9 (hsp.below (bz_drewN (bz_refl wr)))
          have kq : ∀ d, (convert 22 9 u8).run Tryd.prog (wr.drewN d) = .ok (.string (bs P)) (wr.drewN d) := fun d =>
            conv_own Tryd.underlying22 Tryd.underlying5 Tryd.underlying9 (own_below hq (bz_drewN (bz_refl wr)))
          have KP := Lib.hid kp; clear kp
          have KQ := Lib.hid kq; clear kq
          have hpa := slice_atb hsp
          have hta := slice_at HSV.out
          have HPA := Lib.hid hpa; clear hpa hsp hq
          have HTA := Lib.hid hta; clear hta
          have HPL := Lib.hid hpl; clear hpl
          have HP2 := Lib.hid hP; clear hP
          have HTV := Lib.hid HBV.out.size
          go_wp2
          go_loopw [10, 11] (fun n i wq => ∃ (k j d : Nat), k ≤ TL ∧ j = ((T.take k).filter ascS).length ∧ j ≤ k ∧ n = .int .i64 j ∧ i = .int .i64 k ∧ wq = wr.drewN d) (fun _ i _ => TL - (intOf i).toNat)
          case atStart => exact ⟨0, 0, 0, Nat.zero_le _, by simp, Nat.le_refl _, rfl, rfl, rfl⟩
          case round =>
            obtain ⟨k, j, d, hk, hj, hjk, rfl, rfl, rfl⟩ := hrel
            have HJ := Lib.hid hj; clear hj
            by_cases hlt : k < TL
            · have hx : k < T.length := by have := HTL.out; omega
              obtain ⟨b, o, rfl, hb, hcell⟩ := HTA.out k hx
              have hst := filt_step (f := ascS) hx
              have hpt := fun h => plain_at HTT.out hx h
              obtain ⟨t, ht⟩ : ∃ t, t = T[k] := ⟨_, rfl⟩
              rw [← ht] at hcell hst hpt
              clear ht
              have HST := Lib.hid hst; clear hst
              have HPT := Lib.hid hpt; clear hpt
              have hcs : t < 0 ∨ (0 ≤ t ∧ 128 ≤ t) ∨ (0 ≤ t ∧ t < 128) := by omega
              rcases hcs with hc | ⟨hc, hd⟩ | ⟨hc, hd⟩
              · go_wp2
                go_roundw
                case rel =>
                  refine ⟨k + 1, j, d, hlt, ?_, by omega, rfl, by simp, rfl⟩
                  have e1 : ascS t = false := by unfold ascS; exact decide_eq_false (by omega)
                  rw [HST.out, e1, if_neg (by simp), List.append_nil]
                  exact HJ.out
                case measure => simp [intOf]; omega
              · go_wp2
                go_roundw
                case rel =>
                  refine ⟨k + 1, j, d, hlt, ?_, by omega, rfl, by simp, rfl⟩
                  have e1 : ascS t = false := by unfold ascS; exact decide_eq_false (by omega)
                  rw [HST.out, e1, if_neg (by simp), List.append_nil]
                  exact HJ.out
                case measure => simp [intOf]; omega
              · obtain ⟨hjl, hje⟩ : ∃ h : j < P.length, b2 P[j] = t := by
                  obtain ⟨h, he⟩ := HPT.out ⟨hc, hd⟩
                  have e1 := HJ.out
                  have e2 := HP2.out
                  subst e1
                  subst e2
                  exact ⟨h, he⟩
                obtain ⟨b', o', hap, hb', hcell'⟩ := HPA.out j hjl
                subst hap
                rw [hje] at hcell'
                have hjp : j < pl := by rw [HPL.out, ← HP2.out]; exact hjl
                have hw : IntKind.i64.wrap t = t := IntWalk.i64_in _ (by omega)
                clear hje hjl
                go_wp2
                go_quiet (fail)
                go_wp2
                go_roundw
                case rel =>
                  refine ⟨k + 1, j + 1, _, hlt, ?_, by omega, by simp, by simp, rfl⟩
                  have e1 : ascS t = true := by unfold ascS; exact decide_eq_true ⟨hc, hd⟩
                  rw [HST.out, e1, if_pos rfl, List.length_append, ← HJ.out]
                  rfl
                case measure => simp [intOf]; omega
            · obtain rfl : TL = k := by omega
              have hjp : j = pl := by
                rw [HJ.out, HPL.out, List.take_of_length_le (by have := HTL.out; omega), HTT.out, filter_signs, List.length_map]
              subst hjp
              clear HJ HPL
              have kp := KP.out d
              have kq := KQ.out d
              go_wp2
              go_ret
              exact ⟨ret1_bool rfl, drewN_below HBV.out _⟩

theorem textPlain_walk (v : Value) (l : Bytes) (w : World) (h : Sl w.heap.size w v (Lib.byteCells l)) (hT : Tabs w) :
    Calls Tryd.prog 8 #[v] w fun e w' => e = .returned (.bool true) ∧ Below w.heap.size w w' := by
  obtain ⟨av, cv, rfl⟩ := slice_val h
  rw [Lib.byteCells_length] at h ⊢
  by_cases hlt : l.length ≤ 1000
  · exact textPlain_core l av cv w h hlt hT
  · have HT := Lib.hid hT; clear hT
    clear h
    generalize l.length = L at *
    go_enter Tryd.func8, Tryd.ntmps8
    go_wp2_with fail
    refine (small_any _ HT.out).mono ?_
    rintro e w1 ⟨rfl, hb1⟩
    have HB1 := Lib.hid hb1; clear hb1
    go_wp2
    go_ret
    exact ⟨rfl, HB1.out⟩
end Go.Proofs.YtichfpgamlgocaaDoor
