/- Values as they are written: the reference's Write. -/
import Derived.Test.YtcmpjklkdmpglaaDoorEmH
namespace Go.Proofs.YtcmpjklkdmpglaaDoor
open Go.RowKit
set_option maxRecDepth 10000

set_option maxHeartbeats 16000000 in
theorem rewrite25_any (kind : Int) (l : List Itm) (v : Value) (d : Bytes) (w : World) (h : Items w.heap.size w v l) (hs : ∀ i ∈ l, ItmSm i) (hn : l.length ≤ 20) (hd : d.length ≤ 1000) :
    Calls Tryd.prog 11 #[.int .i64 kind, .agg #[v, S d]] w fun e w' => e = .returned (S (writeF kind l d)) ∧ Below w.heap.size w w' := by
  have hok := items_ok h
  have hesc := fun (x : Bytes) (W : World) (hx : x.length ≤ 1000000000) => rescape_any x W hx
  have hll := listF_len l hok hs
  have hlk : ∀ k, (listF (l.take k)).length ≤ 5002002 * 20 := by
    intro k
    have h1 := listF_len (l.take k) (fun i hi => hok i (List.mem_of_mem_take hi)) (fun i hi => hs i (List.mem_of_mem_take hi))
    have : (l.take k).length ≤ 20 := by rw [List.length_take]; omega
    omega
  obtain ⟨av, cc, hv⟩ := items_val h
  subst hv
  have HESC := Lib.hid hesc; clear hesc
  cases l with
  | nil =>
    go_enter Tryd.func11, Tryd.ntmps11
    go_wp2_with fail
    go_ret
    exact ⟨rfl, (Below.refl _ _).alloc (Nat.le_refl _) _⟩
  | cons it r =>
    obtain ⟨b, o, rfl, hbb, hat⟩ := items_at h 0 (by simp)
    simp only [List.getElem_cons_zero, Nat.zero_mul, Nat.add_zero] at hat
    obtain ⟨pv, wv, hrg, hoki, hpv, hwv⟩ := hat
    have hsm := hs it List.mem_cons_self
    have hau : UrlAt (urlCells pv it.url).toArray pv it.url := urlAt_of pv hoki
    have huc := urlCells_len pv it.url hoki
    have hser := fun (W : World) (hW : Below w.heap.size w W) => rser_any it.url _ pv true W hau ((hpv.below hW).more hW.size) hsm.url
    have hsl := serF_len it.url hoki hsm.url true
    have hrgu : ∀ W, Below w.heap.size w W → W.rangeAt b (o + 1) (urlCells pv it.url) := fun W hW j v hj => (hW.cell (p := ⟨b, o + 1 + j, none⟩) hbb).trans (itm_url hrg j v hj)
    have hw : writeF kind (it :: r) d = escB (bodyF kind (it :: r) d) := rfl
    have hbd : bodyF kind (it :: r) d = if kind = 1 then serF it.url true else if kind = 2 then listF (it :: r) else if kind = 3 then rfF d true (serF it.url true) else [] := rfl
    obtain ⟨L, hL⟩ : ∃ L, L = it :: r := ⟨_, rfl⟩
    rw [← hL] at h hs hn hok hll hlk hw hbd ⊢
    obtain ⟨N, hN⟩ : ∃ N, N = L.length := ⟨_, rfl⟩
    have hN0 : (0 : Int) < N := by rw [hN, hL, List.length_cons]; omega
    have hN1 : ¬ (N : Int) = 0 := by omega
    clear hL
    rw [← hN] at hll hn h ⊢
    have hll2 : (listF L).length ≤ 1000000000 := by omega
    have hrl : (rfF d true (serF it.url true)).length ≤ 1000000000 := by
      simp only [rfF, if_true, List.length_append, List.length_cons, List.length_nil]; omega
    have HLI := Lib.hid (show listF L = listF L from rfl)
    obtain ⟨LI, hLI⟩ : ∃ LI, LI = listF L := ⟨_, rfl⟩
    rw [← hLI] at hll2 hbd
    generalize writeF kind L d = WR at *
    generalize bodyF kind L d = BO at *
    generalize serF it.url true = SE at *
    have hrf := fun W => rrfw_any d SE true W (by omega) (by omega)
    generalize rfF d true SE = RF at *
    have HSER := Lib.hid hser
    have HRG := Lib.hid hrgu
    have HUC := Lib.hid huc
    have HRF := Lib.hid hrf
    have HW := Lib.hid hw
    have HBD := Lib.hid hbd
    have HIT := Lib.hid h
    have HS := Lib.hid hs
    have HLK := Lib.hid hlk
    have HN := Lib.hid hN
    have HLI2 := Lib.hid hLI
    clear hser hrgu huc hrf hw hbd h hs hok hrg hoki hpv hwv hsm hau hN hll hlk HLI hLI
    have hbel : ∀ o, Below w.heap.size w (w.alloc o) := fun o => (Below.refl w.heap.size w).alloc (Nat.le_refl _) o
    have HBEL := Lib.hid hbel; clear hbel
    have hcd : ∀ W, Below (w.heap.size + 1) (w.alloc (.cells #[.slice (some ⟨b, o, none⟩) N cc, S d] 24)) W → W.cell? ⟨w.heap.size, 1, none⟩ = some (S d) ∧ W.cell? ⟨w.heap.size, 0, none⟩ = some (.slice (some ⟨b, o, none⟩) N cc) := fun W hW => by
      rw [hW.cell (p := ⟨w.heap.size, 1, none⟩) (by simp), hW.cell (p := ⟨w.heap.size, 0, none⟩) (by simp)]
      rw [World.cell?_alloc_mark, World.cell?_alloc_mark]; exact ⟨rfl, rfl⟩
    have HCD := Lib.hid hcd; clear hcd
    -- what is done with the text s
    by_cases k2 : kind = 2
    · have hbd := HBD.out
      rw [if_neg (by omega), if_pos k2] at hbd
      have hw := HW.out
      rw [hbd] at hw
      have HW2 := Lib.hid hw
      clear hbd hw
      subst k2
      go_enter Tryd.func11, Tryd.ntmps11
      go_wp2_with (first
        | (refine wpList_load_mid rfl 32 _ rfl b (o + 1) rfl (urlCells pv it.url) _ (HRG.out _ (HBEL.out _)) Tryd.underlying32 rfl (by rw [HUC.out]; kernel_rfl) ?_)
        | (go_at_call 16; refine (HSER.out _ (HBEL.out _)).mono ?_; rintro e w2 ⟨rfl, hb2⟩; have HB2 := Lib.hid (hb2.mono (by simp) : Below (w.heap.size + 1) _ _); clear hb2)
        | fail)
      have hW : ∀ W, Below (w.heap.size + 1) (w.alloc (.cells #[.slice (some ⟨b, o, none⟩) N cc, S d] 24)) W → Below w.heap.size w W := fun W hW => (HBEL.out _).trans (hW.mono (by omega))
      have HWB := Lib.hid hW; clear hW
      have HCD2 := HCD
      clear HRG HUC HSER HCD
      have hz1 : w.heap.size + 1 ≤ (w.alloc (.cells #[.slice (some ⟨b, o, none⟩) N cc, S d] 24)).heap.size := by simp
      have hW1 : ∃ w1, w1 = w.alloc (.cells #[.slice (some ⟨b, o, none⟩) N cc, S d] 24) := ⟨_, rfl⟩
      obtain ⟨w1, hw1⟩ := hW1
      rw [← hw1] at HB2 HWB HCD2 hz1
      clear hw1
      have HZ1 := Lib.hid hz1; clear hz1
      go_loopw [6, 7] (fun sv iv wr => ∃ k : Nat, k ≤ N ∧ iv = .int .i64 k ∧ sv = .string (bs (listF (L.take k))) ∧ Hid (Below (w.heap.size + 1) w1 wr)) (fun _ i _ => N - (intOf i).toNat)
      case atStart => exact ⟨0, by omega, by simp, rfl, HB2.out⟩
      case round =>
        obtain ⟨k, hk, rfl, rfl, hbw⟩ := hrel
        obtain ⟨c1, c0⟩ := HCD2.out _ hbw.out
        by_cases hlt : k < N
        · have hkl : k < L.length := by rw [← HN.out]; exact hlt
          have hlti : (k : Int) < N := by omega
          obtain ⟨b', o', hbo, hbb', hat⟩ := items_at HIT.out k hkl
          injection hbo with hbo
          injection hbo with hb1 ho1
          subst hb1; subst ho1
          obtain ⟨pvk, wvk, hrg, hok, hpv, hwv⟩ := hat
          have hsm := HS.out _ (List.getElem_mem hkl)
          have htk := listF_take L k hkl
          have hl0 := HLK.out k
          generalize L[k] = itk at hrg hok hpv hwv hsm htk
          generalize listF (L.take k) = T at htk hl0 ⊢
          have hau : UrlAt (urlCells pvk itk.url).toArray pvk itk.url := urlAt_of pvk hok
          have huc := urlCells_len pvk itk.url hok
          have hser := fun (W : World) (hW : Below w.heap.size w W) => rser_any itk.url _ pvk true W hau ((hpv.below hW).more hW.size) hsm.url
          have hrgu : ∀ W, Below w.heap.size w W → W.rangeAt b (o + k * 25 + 1) (urlCells pvk itk.url) := fun W hW j v hj => (hW.cell (p := ⟨b, o + k * 25 + 1 + j, none⟩) hbb).trans (itm_url hrg j v hj)
          have hcw : ∀ W, Below w.heap.size w W → W.cell? ⟨b, o + k * 25 + 24, none⟩ = some wvk := fun W hW => (hW.cell (p := ⟨b, o + k * 25 + 24, none⟩) hbb).trans (itm_words hok hrg)
          obtain ⟨wa, wc, hwvv⟩ := slice_val hwv
          rw [List.length_map] at hwvv
          subst hwvv
          obtain ⟨M, hM⟩ : ∃ M, M = itk.words.length := ⟨_, rfl⟩
          rw [← hM] at hwv hcw
          have hMm : M ≤ 10 := by have := hsm.n; omega
          have hifl := serF_len itk.url hok hsm.url true
          have hwfl : ∀ j, (wordsF (itk.words.take j)).length ≤ 1010 := by
            intro j
            have h1 := wordsF_len (itk.words.take j) (fun x hx => hsm.w x (List.mem_of_mem_take hx))
            have h2 : (itk.words.take j).length ≤ 10 := by rw [List.length_take]; have := hsm.n; omega
            omega
          have HSERK := Lib.hid hser
          have HRGK := Lib.hid hrgu
          have HUCK := Lib.hid huc
          have HCW := Lib.hid hcw
          have HWV := Lib.hid hwv
          have HSM := Lib.hid hsm
          have HTK := Lib.hid htk
          have HM := Lib.hid hM
          have HWFL := Lib.hid hwfl
          have hif : itemF itk = serF itk.url true ++ wordsF itk.words := rfl
          have HIF := Lib.hid hif
          clear hser hrgu huc hcw hwv hsm htk hM hwfl hif hrg hok hpv hau hlt
          have hsep : k = 0 ∨ (0 : Int) < k := by omega
          rcases hsep with hk0 | hk0
          all_goals first
            | (skip
               have htk := HTK.out
               rw [if_pos hk0, List.append_nil] at htk
               have hk0i : ¬ (0 : Int) < k := by omega
               clear hk0
               obtain ⟨T1, hT1⟩ : ∃ T1, T1 = T := ⟨_, rfl⟩
               rw [← hT1] at htk ⊢
               have hT1l : T1.length ≤ 5002002 * 21 := by rw [hT1]; omega
               have HTK1 := Lib.hid htk
               clear hT1 htk HTK
               go_upto_region 14 with fail)
            | (skip
               have htk := HTK.out
               rw [if_neg (by omega)] at htk
               have hcat := bs_app T [44, 32]
               have e44 : bs [44, 32] = ⟨#[44, 32]⟩ := rfl
               rw [e44] at hcat
               obtain ⟨T1, hT1⟩ : ∃ T1, T1 = T ++ [44, 32] := ⟨_, rfl⟩
               rw [← hT1] at htk hcat
               have hT1l : T1.length ≤ 5002002 * 21 := by rw [hT1, List.length_append]; simp; omega
               have HTK1 := Lib.hid htk
               clear hT1 htk HTK e44
               go_upto_region 14 with fail)
          all_goals
            generalize serF itk.url true = SK at HSERK HIF hifl
            have hcatS := bs_app T1 SK
            go_upto_region 15 with (first
              | (refine wpList_load_mid rfl 32 _ rfl b (o + k * 25 + 1) rfl (urlCells pvk itk.url) _ (HRGK.out _ (HWB.out _ hbw.out)) Tryd.underlying32 rfl (by rw [HUCK.out]; kernel_rfl) ?_)
              | (go_at_call 16; refine (HSERK.out _ (HWB.out _ hbw.out)).mono ?_; rintro e w4 ⟨rfl, hb4⟩; have HB4 := Lib.hid (hbw.out.trans (hb4.mono (Nat.le_trans HZ1.out hbw.out.size))); clear hb4)
              | fail)
            obtain ⟨_, c0b⟩ := HCD2.out _ HB4.out
            have cwb := HCW.out _ (HWB.out _ HB4.out)
            clear c0 c1 hcatS
            go_wp2_with fail
            go_loopw [6, 8] (fun sv jv wr => ∃ j : Nat, j ≤ M ∧ jv = .int .i64 j ∧ sv = .string (bs (T1 ++ SK ++ wordsF (itk.words.take j))) ∧ w4 = wr) (fun _ j _ => M - (intOf j).toNat)
            case atStart => exact ⟨0, by omega, by simp, (by rw [show itk.words.take 0 = [] from rfl, show wordsF [] = [] from rfl, List.append_nil]), rfl⟩
            case round =>
              obtain ⟨j, hj, rfl, rfl, rfl⟩ := hrel
              by_cases hjl : j < M
              · have hjw : j < itk.words.length := by rw [← HM.out]; exact hjl
                have hjli : (j : Int) < M := by omega
                obtain ⟨wb, wo, rfl, hwb, hwc⟩ := strs_at (HWV.out.below (HWB.out _ HB4.out)) j hjw
                have hwt := wordsF_take itk.words j hjw
                have hwl := HSM.out.w _ (List.getElem_mem hjw)
                have hf1 := HWFL.out j
                generalize itk.words[j] = word at hwc hwt hwl
                generalize wordsF (itk.words.take j) = U at hwt hf1 ⊢
                have hLn : (T1 ++ SK ++ U).length ≤ 5002002 * 21 + 5000000 + 1010 := by rw [List.length_append, List.length_append]; omega
                have hcatW : bs (T1 ++ SK ++ U) ++ ⟨#[32]⟩ ++ bs word = bs (T1 ++ SK ++ wordsF (itk.words.take (j + 1))) := by
                  have e32 : (⟨#[32]⟩ : ByteArray) = bs [32] := rfl
                  rw [e32, bs_app, bs_app, hwt]
                  simp only [List.append_assoc]
                have HCW2 := Lib.hid hcatW
                obtain ⟨V, hV⟩ : ∃ V, V = bs (T1 ++ SK ++ U) := ⟨_, rfl⟩
                have hVz : V.size ≤ 5002002 * 21 + 5000000 + 1010 := by rw [hV, bs_size]; exact hLn
                rw [← hV] at HCW2 ⊢
                clear hwt hV hLn hcatW hjl
                go_wp2_with fail
                go_roundw
                case rel =>
                  first
                    | exact ⟨j + 1, by omega, by simp, by rw [← HCW2.out], by trivial⟩
                    | ((repeat apply Exists.intro); exact ⟨⟨j + 1, by omega, by simp, by rw [← HCW2.out], by trivial⟩, rfl⟩)
                case measure => simp [intOf]; omega
              · obtain rfl : j = M := by omega
                have hU : T1 ++ SK ++ wordsF (itk.words.take j) = listF (L.take (k + 1)) := by
                  rw [HM.out, List.take_length, HTK1.out, HIF.out, List.append_assoc]
                rw [hU]
                have hlk1 := HLK.out (k + 1)
                clear hU
                go_wp2_with fail
                go_roundw
                case rel =>
                  first
                    | exact ⟨k + 1, by omega, by simp, rfl, HB4.out⟩
                    | ((repeat apply Exists.intro); exact ⟨⟨k + 1, by omega, by simp, rfl, HB4.out⟩, rfl⟩)
                case measure => simp [intOf]; omega
        · obtain rfl : k = N := by omega
          have hfin : listF (L.take k) = LI := by rw [HN.out, List.take_length, HLI2.out]
          rw [hfin]
          clear hfin
          go_wp2_with (first
            | (go_at_call 22; refine (HESC.out LI _ hll2).mono ?_; rintro e w9 ⟨rfl, hb9⟩; have HB9 := Lib.hid ((HWB.out _ hbw.out).trans (hb9.mono (HWB.out _ hbw.out).size)); clear hb9)
            | fail)
          go_ret
          exact ⟨by rw [HW2.out]; rfl, HB9.out⟩
    · -- the other kinds: no loop
      by_cases k1 : kind = 1
      · have hbd := HBD.out
        rw [if_pos k1] at hbd
        have hw := HW.out
        rw [hbd] at hw
        have HW2 := Lib.hid hw
        clear hbd hw
        subst k1
        go_enter Tryd.func11, Tryd.ntmps11
        go_wp2_with (first
          | (refine wpList_load_mid rfl 32 _ rfl b (o + 1) rfl (urlCells pv it.url) _ (HRG.out _ (HBEL.out _)) Tryd.underlying32 rfl (by rw [HUC.out]; kernel_rfl) ?_)
          | (go_at_call 16; refine (HSER.out _ (HBEL.out _)).mono ?_; rintro e w2 ⟨rfl, hb2⟩; have c1 := (HCD.out _ (hb2.mono (by simp))).1; have HB2 := Lib.hid ((HBEL.out _).trans (hb2.mono (HBEL.out _).size)); clear hb2)
          | (go_at_call 22; refine (HESC.out SE _ (by omega)).mono ?_; rintro e w9 ⟨rfl, hb9⟩; have HB9 := Lib.hid (HB2.out.trans (hb9.mono HB2.out.size)); clear hb9)
          | fail)
        go_ret
        exact ⟨by rw [HW2.out]; rfl, HB9.out⟩
      by_cases k3 : kind = 3
      · have hbd := HBD.out
        rw [if_neg k1, if_neg k2, if_pos k3] at hbd
        have hw := HW.out
        rw [hbd] at hw
        have HW2 := Lib.hid hw
        clear hbd hw
        subst k3
        go_enter Tryd.func11, Tryd.ntmps11
        go_wp2_with (first
          | (refine wpList_load_mid rfl 32 _ rfl b (o + 1) rfl (urlCells pv it.url) _ (HRG.out _ (HBEL.out _)) Tryd.underlying32 rfl (by rw [HUC.out]; kernel_rfl) ?_)
          | (go_at_call 16; refine (HSER.out _ (HBEL.out _)).mono ?_; rintro e w2 ⟨rfl, hb2⟩; have c1 := (HCD.out _ (hb2.mono (by simp))).1; have HB2 := Lib.hid ((HBEL.out _).trans (hb2.mono (HBEL.out _).size)); clear hb2)
          | (go_at_call 21; refine (HRF.out _).mono ?_; rintro e w4 ⟨rfl, hb4⟩; have HB4 := Lib.hid (HB2.out.trans (hb4.mono HB2.out.size)); clear hb4)
          | (go_at_call 22; refine (HESC.out RF _ hrl).mono ?_; rintro e w9 ⟨rfl, hb9⟩; have HB9 := Lib.hid (HB4.out.trans (hb9.mono HB4.out.size)); clear hb9)
          | fail)
        go_ret
        exact ⟨by rw [HW2.out]; rfl, HB9.out⟩
      have hbd := HBD.out
      rw [if_neg k1, if_neg k2, if_neg k3] at hbd
      have hw := HW.out
      rw [hbd] at hw
      have HW2 := Lib.hid hw
      clear hbd hw
      go_enter Tryd.func11, Tryd.ntmps11
      go_wp2_with (first
        | (refine wpList_load_mid rfl 32 _ rfl b (o + 1) rfl (urlCells pv it.url) _ (HRG.out _ (HBEL.out _)) Tryd.underlying32 rfl (by rw [HUC.out]; kernel_rfl) ?_)
        | (go_at_call 16; refine (HSER.out _ (HBEL.out _)).mono ?_; rintro e w2 ⟨rfl, hb2⟩; have c1 := (HCD.out _ (hb2.mono (by simp))).1; have HB2 := Lib.hid ((HBEL.out _).trans (hb2.mono (HBEL.out _).size)); clear hb2)
        | (go_at_call 22; refine (HESC.out [] _ (by simp)).mono ?_; rintro e w9 ⟨rfl, hb9⟩; have HB9 := Lib.hid (HB2.out.trans (hb9.mono HB2.out.size)); clear hb9)
        | fail)
      go_ret
      exact ⟨by rw [HW2.out]; rfl, HB9.out⟩
end Go.Proofs.YtcmpjklkdmpglaaDoor
