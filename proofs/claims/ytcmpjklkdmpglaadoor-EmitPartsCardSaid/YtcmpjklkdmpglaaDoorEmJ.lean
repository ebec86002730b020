/- Which items are few: tamislaw25.Few. -/
import Derived.Test.YtcmpjklkdmpglaaDoorEmI
namespace Go.Proofs.YtcmpjklkdmpglaaDoor
open Go.RowKit
set_option maxRecDepth 10000

structure ItmFew (i : Itm) : Prop where
  url : UrlFew i.url
  n : i.words.length ≤ 10
  w : ∀ x ∈ i.words, x.length ≤ 100
structure RdFew (l : List Itm) (d : Bytes) : Prop where
  n : l.length ≤ 20
  d : d.length ≤ 200
  i : ∀ x ∈ l, ItmFew x
theorem ItmFew.sm {i : Itm} (h : ItmFew i) : ItmSm i := ⟨h.url.sm, h.n, h.w⟩

set_option maxHeartbeats 16000000 in
theorem few25_any (l : List Itm) (v : Value) (d : Bytes) (w : World) (h : Items w.heap.size w v l) :
    Calls Tryd.prog 6 #[.agg #[v, S d]] w fun e w' => RetF (RdFew l d) e ∧ Below w.heap.size w w' := by
  obtain ⟨av, cc, hv⟩ := items_val h
  subst hv
  obtain ⟨N, hN⟩ : ∃ N, N = l.length := ⟨_, rfl⟩
  rw [← hN] at h ⊢
  obtain ⟨Good, hGood⟩ : ∃ Good : Prop, Good = RdFew l d := ⟨_, rfl⟩
  rw [← hGood]
  have hmk : N ≤ 20 → d.length ≤ 200 → (∀ k (hk : k < l.length), k < N → ItmFew l[k]) → Good := by
    intro a1 a2 a3
    rw [hGood]
    refine ⟨by omega, a2, fun x hx => ?_⟩
    obtain ⟨k, hk, rfl⟩ := List.getElem_of_mem hx
    exact a3 k hk (by omega)
  have HMK := Lib.hid hmk
  have HIT := Lib.hid h
  have HN := Lib.hid hN
  clear hGood hmk h hN
  have hbel : ∀ o, Below w.heap.size w (w.alloc o) := fun o => (Below.refl w.heap.size w).alloc (Nat.le_refl _) o
  have HBEL := Lib.hid hbel; clear hbel
  by_cases h1 : (20 : Int) < N
  · go_enter Tryd.func6, Tryd.ntmps6
    go_wp2_with fail
    go_ret
    exact ⟨RetF.ff, HBEL.out _⟩
  by_cases h2 : (200 : Int) < d.length
  · go_enter Tryd.func6, Tryd.ntmps6
    go_wp2_with fail
    go_ret
    exact ⟨RetF.ff, HBEL.out _⟩
  have hN20 : N ≤ 20 := by omega
  have hd2 : d.length ≤ 200 := by omega
  have hcd : ∀ W, Below (w.heap.size + 1) (w.alloc (.cells #[.slice av N cc, S d] 24)) W → W.cell? ⟨w.heap.size, 0, none⟩ = some (.slice av N cc) := fun W hW => by
    rw [hW.cell (p := ⟨w.heap.size, 0, none⟩) (by simp)]
    rw [World.cell?_alloc_mark]; rfl
  have hWB : ∀ W, Below (w.heap.size + 1) (w.alloc (.cells #[.slice av N cc, S d] 24)) W → Below w.heap.size w W := fun W hW => (HBEL.out _).trans (hW.mono (by omega))
  have hz1 : w.heap.size + 1 ≤ (w.alloc (.cells #[.slice av N cc, S d] 24)).heap.size := by simp
  have HCD := Lib.hid hcd
  have HWB := Lib.hid hWB
  have HZ1 := Lib.hid hz1
  clear hcd hWB hz1
  go_enter Tryd.func6, Tryd.ntmps6
  go_wp2_with fail
  obtain ⟨w1, hw1⟩ : ∃ w1, w1 = w.alloc (.cells #[.slice av N cc, S d] 24) := ⟨_, rfl⟩
  rw [← hw1] at HCD HWB HZ1 ⊢
  clear hw1
  go_loopw [3] (fun iv wr => ∃ k : Nat, k ≤ N ∧ iv = .int .i64 k ∧ Hid (∀ j (hj : j < l.length), j < k → ItmFew l[j]) ∧ Hid (Below (w.heap.size + 1) w1 wr)) (fun i _ => N - (intOf i).toNat)
  case atStart => exact ⟨0, by omega, by simp, fun j _ h => absurd h (Nat.not_lt_zero j), Below.refl _ _⟩
  case round =>
    obtain ⟨k, hk, rfl, hgd, hbw⟩ := hrel
    have c0 := HCD.out _ hbw.out
    by_cases hlt : k < N
    · have hkl : k < l.length := by rw [← HN.out]; exact hlt
      have hlti : (k : Int) < N := by omega
      obtain ⟨b, o, rfl, hbb, hat⟩ := items_at HIT.out k hkl
      obtain ⟨pv, wv, hrg, hok, hpv, hwv⟩ := hat
      have hgd2 : ItmFew l[k] → ∀ j (hj : j < l.length), j < k + 1 → ItmFew l[j] := fun hx j hj h => by
        rcases Nat.lt_or_ge j k with h1 | h1
        · exact hgd.out j hj h1
        · obtain rfl : j = k := by omega
          exact hx
      have HGD := Lib.hid hgd2
      clear hgd2 hgd
      obtain ⟨it, hit⟩ : ∃ it, it = l[k] := ⟨_, rfl⟩
      rw [← hit] at hrg hok hpv hwv HGD
      clear hit
      have hau : UrlAt (urlCells pv it.url).toArray pv it.url := urlAt_of pv hok
      have huc := urlCells_len pv it.url hok
      have hfew := fun (W : World) (hW : Below w.heap.size w W) => few12_any it.url _ pv W hau ((hpv.below hW).more hW.size)
      have hrgu : ∀ W, Below w.heap.size w W → W.rangeAt b (o + k * 25 + 1) (urlCells pv it.url) := fun W hW j v hj => (hW.cell (p := ⟨b, o + k * 25 + 1 + j, none⟩) hbb).trans (itm_url hrg j v hj)
      have hcw : ∀ W, Below w.heap.size w W → W.cell? ⟨b, o + k * 25 + 24, none⟩ = some wv := fun W hW => (hW.cell (p := ⟨b, o + k * 25 + 24, none⟩) hbb).trans (itm_words hok hrg)
      obtain ⟨wa, wc, hwvv⟩ := slice_val hwv
      rw [List.length_map] at hwvv
      subst hwvv
      obtain ⟨M, hM⟩ : ∃ M, M = it.words.length := ⟨_, rfl⟩
      rw [← hM] at hwv hcw
      have HFEW := Lib.hid hfew
      have HRG := Lib.hid hrgu
      have HUC := Lib.hid huc
      have HCW := Lib.hid hcw
      have HWV := Lib.hid hwv
      have HM := Lib.hid hM
      clear hfew hrgu huc hcw hwv hM hrg hok hpv hau hlt
      go_upto_region 7 with (first
        | (refine wpList_load_mid rfl 32 _ rfl b (o + k * 25 + 1) rfl (urlCells pv it.url) _ (HRG.out _ (HWB.out _ hbw.out)) Tryd.underlying32 rfl (by rw [HUC.out]; kernel_rfl) ?_)
        | (go_at_call 7; refine (HFEW.out _ (HWB.out _ hbw.out)).mono ?_; rintro e w4 ⟨⟨ok, rfl, hok⟩, hb4⟩; have HB4 := Lib.hid (hbw.out.trans (hb4.mono (Nat.le_trans HZ1.out hbw.out.size))); have HOK := Lib.hid hok; clear hb4 hok)
        | fail)
      have c0b := HCD.out _ HB4.out
      have cwb := HCW.out _ (HWB.out _ HB4.out)
      clear c0
      cases ok
      · go_wp2_with fail
        go_ret
        exact ⟨RetF.ff, HWB.out _ HB4.out⟩
      by_cases hM10 : (10 : Int) < M
      · go_wp2_with fail
        go_ret
        exact ⟨RetF.ff, HWB.out _ HB4.out⟩
      have hM1 : M ≤ 10 := by omega
      go_wp2_with fail
      go_loopw [5] (fun jv wr => ∃ j : Nat, j ≤ M ∧ jv = .int .i64 j ∧ Hid (∀ x ∈ it.words.take j, x.length ≤ 100) ∧ w4 = wr) (fun j _ => M - (intOf j).toNat)
      case atStart => exact ⟨0, by omega, by simp, fun x hx => by simp at hx, rfl⟩
      case round =>
        obtain ⟨j, hj, rfl, hgw, rfl⟩ := hrel
        by_cases hjl : j < M
        · have hjw : j < it.words.length := by rw [← HM.out]; exact hjl
          have hjli : (j : Int) < M := by omega
          obtain ⟨wb, wo, rfl, hwb, hwc⟩ := strs_at (HWV.out.below (HWB.out _ HB4.out)) j hjw
          have hgw2 : it.words[j].length ≤ 100 → ∀ x ∈ it.words.take (j + 1), x.length ≤ 100 := by
            intro h x hx
            rw [List.take_succ_eq_append_getElem hjw, List.mem_append, List.mem_singleton] at hx
            rcases hx with hx | rfl
            · exact hgw.out x hx
            · exact h
          generalize it.words[j] = word at hwc hgw2
          have HGW := Lib.hid hgw2
          clear hgw2 hgw hjl
          by_cases h100 : (100 : Int) < word.length
          · go_wp2_with fail
            go_ret
            exact ⟨RetF.ff, HWB.out _ HB4.out⟩
          · have hle : word.length ≤ 100 := by omega
            go_wp2_with fail
            go_roundw
            case rel =>
              first
                | exact ⟨j + 1, by omega, by simp, HGW.out hle, by trivial⟩
                | ((repeat apply Exists.intro); exact ⟨⟨j + 1, by omega, by simp, HGW.out hle, by trivial⟩, rfl⟩)
            case measure => simp [intOf]; omega
        · obtain rfl : j = M := by omega
          have hif : ItmFew it := ⟨HOK.out (by trivial), by rw [← HM.out]; exact hM1, fun x hx => hgw.out x (by rw [HM.out, List.take_length]; exact hx)⟩
          have HIF := Lib.hid (HGD.out hif)
          clear hif
          go_wp2_with fail
          go_roundw
          case rel =>
            first
              | exact ⟨k + 1, by omega, by simp, HIF.out, HB4.out⟩
              | ((repeat apply Exists.intro); exact ⟨⟨k + 1, by omega, by simp, HIF.out, HB4.out⟩, rfl⟩)
          case measure => simp [intOf]; omega
    · obtain rfl : k = N := by omega
      go_wp2_with fail
      go_ret
      exact ⟨RetF.of fun _ => HMK.out hN20 hd2 hgd.out, HWB.out _ hbw.out⟩
end Go.Proofs.YtcmpjklkdmpglaaDoor
