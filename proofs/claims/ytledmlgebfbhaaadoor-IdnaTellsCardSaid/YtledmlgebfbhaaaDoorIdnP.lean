/- The walk of the reference's Domain of layer 8. -/
import Derived.Test.YtledmlgebfbhaaaDoorIdnO
import Derived.Test.YtledmlgebfbhaaaDoorIdnJ
namespace Go.Proofs.YtledmlgebfbhaaaDoor
open Go.RowKit
set_option maxRecDepth 10000

/-- what the pieces make that are still to come -/
def fin (out : Bytes) (R : List Bytes) : Option Bytes := if R.all okP = true then some (out ++ joinD (R.map outP)) else none
theorem fin_bad {out p : Bytes} {R : List Bytes} (h : wrF p = none) : fin out (p :: R) = none := by
  unfold fin
  rw [if_neg]
  simp only [List.all_cons]
  unfold okP
  rw [h]; simp
theorem fin_last {out p y : Bytes} (h : wrF p = some y) : fin out [p] = some (out ++ y) := by
  unfold fin
  have ho : outP p = y := by unfold outP; rw [h]; rfl
  have hk : okP p = true := by unfold okP; rw [h]; rfl
  rw [if_pos (by simp [hk])]
  simp only [List.map_cons, List.map_nil, ho]
  unfold joinD
  rw [Lib.join_one]
theorem fin_more {out p y : Bytes} {q : Bytes} {R : List Bytes} (h : wrF p = some y) : fin out (p :: q :: R) = fin (out ++ y ++ [46]) (q :: R) := by
  unfold fin
  have ho : outP p = y := by unfold outP; rw [h]; rfl
  have hk : okP p = true := by unfold okP; rw [h]; rfl
  have e : (p :: q :: R).all okP = (q :: R).all okP := by simp only [List.all_cons, hk, Bool.true_and]
  rw [e]
  split
  · rw [List.map_cons, List.map_cons, joinD_cons, ho]
    simp
  · rfl
theorem nodot_cut {p : Bytes} (h : 46 ∉ p) : cutD p = [p] := by
  induction p with
  | nil => rfl
  | cons x r ih =>
    have hx : x ≠ 46 := fun h2 => h (by simp [h2])
    exact cutD_other hx (ih (fun h2 => h (by simp [h2])))
/-- the piece that ends at i -/
theorem piece_nodot {t : Bytes} {f i : Nat} (h : ∀ j (hj : j < t.length), f ≤ j → j < i → t[j] ≠ 46) : 46 ∉ (t.drop f).take (i - f) := by
  intro hm
  obtain ⟨k, hk, e⟩ := List.getElem_of_mem hm
  rw [List.length_take, List.length_drop] at hk
  rw [List.getElem_take, List.getElem_drop] at e
  exact h (f + k) (by omega) (by omega) (by omega) e
theorem cut_dot {t : Bytes} {f i : Nat} (hf : f ≤ i) (hi : i < t.length) (hd : t[i] = 46) (h : ∀ j (hj : j < t.length), f ≤ j → j < i → t[j] ≠ 46) : cutD (t.drop f) = (t.drop f).take (i - f) :: cutD (t.drop (i + 1)) := by
  have e : t.drop f = (t.drop f).take (i - f) ++ 46 :: t.drop (i + 1) := by
    conv => lhs; rw [← List.take_append_drop (i - f) (t.drop f), List.drop_drop, show f + (i - f) = i by omega, List.drop_eq_getElem_cons hi, hd]
  conv => lhs; rw [e]
  rw [cutD_app, nodot_cut (piece_nodot h)]
  rfl
theorem cut_end {t : Bytes} {f : Nat} (h : ∀ j (hj : j < t.length), f ≤ j → j < t.length → t[j] ≠ 46) : cutD (t.drop f) = [(t.drop f).take (t.length - f)] := by
  have e : (t.drop f).take (t.length - f) = t.drop f := List.take_of_length_le (by rw [List.length_drop]; omega)
  have := piece_nodot h
  rw [e] at this ⊢
  exact nodot_cut this
theorem piece_right {l : List Int} {p : Bytes} (h : p ∈ cutD (toldF l)) : rdec p = p := by
  rw [told_join, cut_signs _ (fun c hc => (msL_ok l c hc).2)] at h
  obtain ⟨q, _, rfl⟩ := List.mem_map.mp h
  exact rdec_join' q
theorem piece_len {t p : Bytes} (h : p ∈ cutD t) : p.length ≤ t.length := by
  rw [← pieces_cut] at h
  exact pieces_len h

set_option maxHeartbeats 8000000 in
theorem rdomain_any (b : Bytes) (w : World) (hb : b.length ≤ 8000) : Calls Tryd.prog 14 #[.string (bs b)] w fun e w' => RetE w (domF b) e w' := by
  have hsg := fun W => rsigns_any (bs b) W (by rw [bs_size]; omega)
  rw [ls_bs] at hsg
  have hd1 : ∀ x ∈ signs b, (mapF x).2 = 0 → domF b = none := by
    intro x hx h
    obtain ⟨k, hk, rfl⟩ := List.getElem_of_mem hx
    exact dom_1 hk h
  have hd2 : (signs b).all okM = true → domF b = fin [] (cutD (toldF (signs b))) := by
    intro h
    rw [dom_signs]
    unfold domS fin
    rw [if_pos h, List.nil_append]
  have hpr := fun p (h : p ∈ cutD (toldF (signs b))) => piece_right h
  have htl := told_len (signs b)
  obtain ⟨O, hO⟩ : ∃ O, O = domF b := ⟨_, rfl⟩
  rw [← hO] at hd1 hd2 ⊢
  clear hO
  have hsl := signs_len _ b (Nat.le_refl _)
  obtain ⟨l, hl⟩ : ∃ l, l = signs b := ⟨_, rfl⟩
  rw [← hl] at hsg hsl hd1 hd2 hpr htl
  clear hl
  obtain ⟨s, hs⟩ : ∃ s, s = bs b := ⟨_, rfl⟩
  rw [← hs] at hsg ⊢
  clear hs
  obtain ⟨L, hL⟩ : ∃ L, L = l.length := ⟨_, rfl⟩
  have hLm : L ≤ 8000 := by omega
  have htm : (toldF l).length ≤ 96000 := by omega
  clear hsl hb htl
  have HSG := Lib.hid hsg; clear hsg
  have HD1 := Lib.hid hd1; clear hd1
  have HD2 := Lib.hid hd2; clear hd2
  have HL := Lib.hid hL; clear hL
  have HPR := Lib.hid hpr; clear hpr
  have HTM := Lib.hid htm; clear htm
  go_enter Tryd.func14, Tryd.ntmps14
  go_wp2_with fail
  refine (HSG.out _).mono ?_
  rintro e w2 ⟨v2, rfl, ho2, hb2⟩
  have HB2 := Lib.hid hb2; clear hb2
  obtain ⟨av, cv, hv⟩ := slice_val (Sl.of_own ho2)
  have hs2 := Sl.of_own ho2
  rw [show (I64s l).length = L by rw [List.length_map, HL.out]] at hv
  subst hv
  clear ho2
  rw [HL.out] at hs2
  have hat := slice_at hs2
  rw [← HL.out] at hs2
  have HAT := Lib.hid hat; clear hat hs2
  go_wp2_with fail
  go_loopw [5, 6] (fun sv iv wr => ∃ k : Nat, k ≤ L ∧ iv = .int .i64 k ∧ sv = .string (bs (toldF (l.take k))) ∧ (l.take k).all okM = true ∧ Below w2.heap.size w2 wr) (fun _ i _ => L - (intOf i).toNat)
  case atStart => exact ⟨0, by omega, by simp, by simp [toldF, bs], by simp, Below.refl _ _⟩
  case round =>
    obtain ⟨k, hk, rfl, rfl, hall, hbl⟩ := hrel
    have HA := Lib.hid hall; clear hall
    have HB := Lib.hid hbl; clear hbl
    by_cases hlt : k < L
    · have hx : k < l.length := by have := HL.out; omega
      obtain ⟨b', o', rfl, hb', hc0⟩ := HAT.out k hx
      have hcell : wr.cell? ⟨b', o' + k, none⟩ = some (.int .i64 l[k]) := (HB.out.cell (p := ⟨b', o' + k, none⟩) hb').trans hc0
      clear hc0
      have hts := told_snoc hx
      have hok := fun h => all_snoc3 (f := okM) hx HA.out h
      have hbd := HD1.out _ (List.getElem_mem hx)
      have hml := map_len l[k]
      have htl := told_len (l.take k)
      rw [List.length_take] at htl
      obtain ⟨x, hxx⟩ : ∃ x, x = l[k] := ⟨_, rfl⟩
      rw [← hxx] at hcell hts hok hbd hml
      clear hxx
      have hma := fun W => rmap_any x W
      have hok2 : (mapF x).2 ≠ 0 → (l.take (k + 1)).all okM = true := fun h => hok (decide_eq_true h)
      clear hok
      obtain ⟨K, hK⟩ : ∃ K, K = (mapF x).2 := ⟨_, rfl⟩
      obtain ⟨B, hB⟩ : ∃ B, B = (mapF x).1 := ⟨_, rfl⟩
      rw [← hB] at hts hml
      rw [← hK] at hbd hok2
      rw [← hK, ← hB] at hma
      clear hK hB
      have HMA := Lib.hid hma; clear hma
      obtain ⟨A, hA⟩ : ∃ A, A = toldF (l.take k) := ⟨_, rfl⟩
      rw [← hA] at hts htl ⊢
      clear hA
      have hal : A.length ≤ 96000 := by omega
      clear htl
      have HTS := Lib.hid hts; clear hts
      by_cases hK0 : K = 0
      · have hf := hbd hK0
        have HO := Lib.hid hf
        subst hK0
        clear hok2 hbd hf
        go_wp2_with fail
        refine (HMA.out _).mono ?_
        rintro e w3 ⟨rfl, hb3⟩
        have HB3 := Lib.hid (HB2.out.trans ((HB.out.trans (hb3.mono HB.out.size)).mono HB2.out.size)); clear hb3
        go_wp2_with fail
        go_ret2
        exact RetE.none HO.out HB3.out
      · have q0 : (K == 0) = false := by simp [hK0]
        have hall2 := hok2 hK0
        have HA2 := Lib.hid hall2; clear hall2 hok2 hbd hK0
        go_wp2_with fail
        refine (HMA.out _).mono ?_
        rintro e w3 ⟨rfl, hb3⟩
        have HB3 := Lib.hid (HB.out.trans (hb3.mono HB.out.size)); clear hb3
        go_wp2_with fail
        go_roundw
        case rel => exact ⟨k + 1, by omega, by simp, by rw [HTS.out, bs_app], HA2.out, HB3.out⟩
        case measure => simp [intOf]; omega
    · obtain rfl : L = k := by omega
      have hall := HA.out
      rw [List.take_of_length_le (by have := HL.out; omega)] at hall ⊢
      have hfin := HD2.out hall
      have hpr := HPR.out
      have htm := HTM.out
      obtain ⟨t, htt⟩ : ∃ t, t = toldF l := ⟨_, rfl⟩
      rw [← htt] at hfin hpr htm ⊢
      clear htt hall HPR HTM
      have hpl := fun p (h : p ∈ cutD t) => piece_len h
      obtain ⟨s2, hs2⟩ : ∃ s2, s2 = bs t := ⟨_, rfl⟩
      have hz2 : s2.size = t.length := by rw [hs2, bs_size]
      rw [← hs2]
      obtain ⟨Z, hZ⟩ : ∃ Z, Z = t.length := ⟨_, rfl⟩
      rw [← hZ] at hz2 htm
      have HS2 := Lib.hid hs2; clear hs2
      have HZ := Lib.hid hZ; clear hZ
      have HFIN := Lib.hid hfin; clear hfin
      have HPR := Lib.hid hpr; clear hpr
      have HPL := Lib.hid hpl; clear hpl
      have HB0 := Lib.hid (HB2.out.trans (HB.out.mono HB2.out.size)); clear HB
      go_wp2_with fail
      go_loopw [9, 10, 11] (fun ov fv iv wr => ∃ (i f : Nat) (out : Bytes), iv = .int .i64 i ∧ fv = .int .i64 f ∧ ov = .string (bs out) ∧ f ≤ i ∧ i ≤ Z + 1 ∧ out.length ≤ f * 200000 ∧ Below w.heap.size w wr ∧
        ((i ≤ Z ∧ O = fin out (cutD (t.drop f)) ∧ (∀ q ∈ cutD (t.drop f), q ∈ cutD t) ∧ ∀ j (hj : j < t.length), f ≤ j → j < i → t[j] ≠ 46) ∨ (i = Z + 1 ∧ O = some out))) (fun _ _ i _ => Z + 1 - (intOf i).toNat)
      case atStart => exact ⟨0, 0, [], by simp, by simp, by simp [bs], by omega, by omega, by simp, HB0.out, .inl ⟨by omega, HFIN.out, fun q h => h, fun j _ h1 h2 => by omega⟩⟩
      case round =>
        obtain ⟨i, f, out, rfl, rfl, rfl, hfi, hiZ, hol, hbl, hst⟩ := hrel
        have HB := Lib.hid hbl; clear hbl
        rcases hst with ⟨hi, hO, hsub, hnd⟩ | ⟨hi, hO⟩
        · have hom : out.length ≤ 30000000000 := by
            have : f * 200000 ≤ 96000 * 200000 := Nat.mul_le_mul_right _ (by omega)
            omega
          have hol2 := Lib.hid hol; clear hol
          by_cases hcont : i < Z ∧ ∀ h : i < t.length, t[i] ≠ 46
          · obtain ⟨hiZ2, hne⟩ := hcont
            have hit : i < t.length := by have := HZ.out; omega
            have hk2 : i < s2.size := by omega
            have hxe : ((s2[i]'hk2).toNat : Int) = b2 t[i] := str_at HS2.out hk2 hit
            have hx46 : ((s2[i]'hk2).toNat : Int) ≠ 46 := by
              rw [hxe]
              intro h
              exact hne hit (b2_inj (by rw [h]; decide))
            have q1 : (((s2[i]'hk2).toNat : Int) != 46) = true := by simp [hx46]
            have hnd2 : ∀ j (hj : j < t.length), f ≤ j → j < i + 1 → t[j] ≠ 46 := by
              intro j hj h1 h2
              by_cases hji : j = i
              · subst hji; exact hne hj
              · exact hnd j hj h1 (by omega)
            have HND := Lib.hid hnd2; clear hnd2 hnd hxe hx46
            have HO := Lib.hid hO; clear hO
            have HSUB := Lib.hid hsub; clear hsub
            clear hne
            go_wp2_with fail
            go_roundw
            case rel => exact ⟨i + 1, f, out, by simp, by simp, by simp, by omega, by omega, hol2.out, HB.out, .inl ⟨by omega, HO.out, HSUB.out, HND.out⟩⟩
            case measure => simp [intOf]; omega
          · obtain ⟨p, hp⟩ : ∃ p, p = (t.drop f).take (i - f) := ⟨_, rfl⟩
            have hex : s2.extract f i = bs p := by rw [HS2.out, bs_extract, hp]
            have hcs : (i = Z ∧ cutD (t.drop f) = [p]) ∨ (i < Z ∧ (∃ h : i < t.length, t[i] = 46) ∧ cutD (t.drop f) = p :: cutD (t.drop (i + 1))) := by
              by_cases hz : i = Z
              · left
                refine ⟨hz, ?_⟩
                have hcut := cut_end (t := t) (f := f) (fun j hj h1 h2 => hnd j hj h1 (by have := HZ.out; omega))
                rw [hcut, hp, hz, HZ.out]
              · right
                have hlt : i < Z := by omega
                have hit : i < t.length := by have := HZ.out; omega
                have hd : t[i] = 46 := by
                  by_cases h : t[i] = 46
                  · exact h
                  · exact absurd ⟨hlt, fun _ => h⟩ hcont
                exact ⟨hlt, ⟨hit, hd⟩, by rw [cut_dot hfi hit hd hnd, hp]⟩
            have hpm : p ∈ cutD t := by
              refine hsub p ?_
              rcases hcs with ⟨_, h⟩ | ⟨_, _, h⟩
              · rw [h]; simp
              · rw [h]; simp
            have hplen := HPL.out p hpm
            have hpz : p.length ≤ 96000 := by have := HZ.out; omega
            have hrl := fun W => rlab_any p W (by omega) (HPR.out p hpm)
            have hout := out_len p
            have hfm : f * 200000 + 200000 ≤ (i + 1) * 200000 := by omega
            clear hcont hp hpm hplen hnd
            have HFM := Lib.hid hfm; clear hfm
            have HSUB := Lib.hid hsub; clear hsub
            have HRL := Lib.hid hrl; clear hrl
            rcases hcs with ⟨hz, hcut⟩ | ⟨hz, ⟨hit, hd⟩, hcut⟩
            · rw [hcut] at hO
              clear hcut
              subst hz
              cases hw : wrF p with
              | none =>
                have HO := Lib.hid (hO.trans (fin_bad hw)); clear hO
                rw [hw] at HRL
                clear hw
                go_wp2_with fail
                refine (HRL.out _).mono ?_
                rintro e w3 ⟨x, rfl, _, hb3⟩
                have HB3 := Lib.hid (HB.out.trans (hb3.mono HB.out.size)); clear hb3
                go_wp2_with fail
                go_ret2
                exact RetE.none HO.out HB3.out
              | some y =>
                have HO := Lib.hid (hO.trans (fin_last hw)); clear hO
                have hyl : y.length ≤ 3004 + p.length := by
                  have : outP p = y := by unfold outP; rw [hw]; rfl
                  rw [← this]; exact hout
                rw [hw] at HRL
                clear hw hout
                obtain ⟨u1, hu1⟩ : ∃ u, u = bs (out ++ y) := ⟨_, rfl⟩
                have e1 : bs out ++ bs y = u1 := by rw [hu1]; exact bs_app out y
                have HU1 := Lib.hid hu1; clear hu1
                go_wp2_with fail
                refine (HRL.out _).mono ?_
                rintro e w3 ⟨x, rfl, hx, hb3⟩
                obtain rfl : x = y := hx y rfl
                clear hx
                have HB3 := Lib.hid (HB.out.trans (hb3.mono HB.out.size)); clear hb3
                go_wp2_with fail
                go_roundw
                case rel => exact ⟨i + 1, i + 1, out ++ x, by simp, by simp, by rw [HU1.out], by omega, by omega, by have := hol2.out; have := HFM.out; rw [List.length_append]; omega, HB3.out, .inr ⟨rfl, HO.out⟩⟩
                case measure => simp [intOf] <;> omega
            · rw [hcut] at hO HSUB
              obtain ⟨q, R, hqr⟩ := cutD_ne (t.drop (i + 1))
              rw [hqr] at hO
              have hk2 : i < s2.size := by omega
              have hxe : ((s2[i]'hk2).toNat : Int) = 46 := by rw [str_at HS2.out hk2 hit, hd]; decide
              have q1 : (((s2[i]'hk2).toNat : Int) != 46) = false := by simp [hxe]
              clear hcut hd hxe
              cases hw : wrF p with
              | none =>
                have HO := Lib.hid (hO.trans (fin_bad hw)); clear hO
                rw [hw] at HRL
                clear hw hqr
                go_wp2_with fail
                refine (HRL.out _).mono ?_
                rintro e w3 ⟨x, rfl, _, hb3⟩
                have HB3 := Lib.hid (HB.out.trans (hb3.mono HB.out.size)); clear hb3
                go_wp2_with fail
                go_ret2
                exact RetE.none HO.out HB3.out
              | some y =>
                have ho2 := hO.trans (fin_more hw)
                rw [← hqr] at ho2
                have HO := Lib.hid ho2; clear hO ho2 hqr
                have hyl : y.length ≤ 3004 + p.length := by
                  have : outP p = y := by unfold outP; rw [hw]; rfl
                  rw [← this]; exact hout
                rw [hw] at HRL
                clear hw hout
                obtain ⟨u1, hu1⟩ : ∃ u, u = bs (out ++ y) := ⟨_, rfl⟩
                obtain ⟨u2, hu2⟩ : ∃ u, u = bs (out ++ y ++ [46]) := ⟨_, rfl⟩
                have e1 : bs out ++ bs y = u1 := by rw [hu1]; exact bs_app out y
                have e2 : u1 ++ (⟨#[46]⟩ : ByteArray) = u2 := by rw [hu1, hu2]; exact bs_app (out ++ y) [46]
                have hl1 : u1.size ≤ 40000000000 := by rw [hu1, bs_size, List.length_append]; omega
                have HU2 := Lib.hid hu2; clear hu1 hu2
                go_wp2_with fail
                refine (HRL.out _).mono ?_
                rintro e w3 ⟨x, rfl, hx, hb3⟩
                obtain rfl : x = y := hx y rfl
                clear hx
                have HB3 := Lib.hid (HB.out.trans (hb3.mono HB.out.size)); clear hb3
                go_wp2_with fail
                go_roundw
                case rel => exact ⟨i + 1, i + 1, out ++ x ++ [46], by simp, by simp, by rw [HU2.out], by omega, by omega, by have := hol2.out; have := HFM.out; rw [List.length_append, List.length_append, List.length_singleton]; omega, HB3.out, .inl ⟨by omega, HO.out, fun z hz => HSUB.out z (by simp [hz]), fun j _ h1 h2 => by omega⟩⟩
                case measure => simp [intOf]; omega
        · have HO := Lib.hid hO; clear hO
          subst hi
          go_wp2_with fail
          go_ret2
          exact RetE.some HO.out rfl HB.out
end Go.Proofs.YtledmlgebfbhaaaDoor
