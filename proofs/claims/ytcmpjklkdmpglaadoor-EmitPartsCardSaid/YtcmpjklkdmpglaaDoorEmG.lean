/- Lists of addresses with their words: emit.list. -/
import Derived.Test.YtcmpjklkdmpglaaDoorEmF
namespace Go.Proofs.YtcmpjklkdmpglaaDoor
open Go.RowKit
set_option maxRecDepth 10000

theorem listF_len : ∀ (l : List Itm), (∀ i ∈ l, UrlOk i.url) → (∀ i ∈ l, ItmSm i) → (listF l).length ≤ 5002002 * l.length
  | [], _, _ => by simp [listF]
  | x :: r, h1, h2 => by
    have hr : ∀ (r : List Itm), (∀ i ∈ r, UrlOk i.url) → (∀ i ∈ r, ItmSm i) → (r.flatMap fun y => [44, 32] ++ itemF y).length ≤ 5002002 * r.length := by
      intro r
      induction r with
      | nil => simp
      | cons y r ih =>
        intro h1 h2
        have h3 := ih (fun i hi => h1 i (List.mem_cons_of_mem _ hi)) (fun i hi => h2 i (List.mem_cons_of_mem _ hi))
        have h4 := itemF_len y (h1 y List.mem_cons_self) (h2 y List.mem_cons_self)
        simp only [List.flatMap_cons, List.length_append, List.length_cons, List.length_nil] at h3 ⊢
        omega
    have h3 := hr r (fun i hi => h1 i (List.mem_cons_of_mem _ hi)) (fun i hi => h2 i (List.mem_cons_of_mem _ hi))
    have h4 := itemF_len x (h1 x List.mem_cons_self) (h2 x List.mem_cons_self)
    simp only [listF, List.length_append, List.length_cons]
    omega
theorem items_ok {B : Nat} {w : World} {v : Value} {l : List Itm} (h : Items B w v l) : ∀ i ∈ l, UrlOk i.url := by
  intro i hi
  obtain ⟨k, hk, rfl⟩ := List.getElem_of_mem hi
  obtain ⟨a, c, rfl⟩ := items_val h
  obtain ⟨b, o, _, _, ⟨_, _, _, h2, _, _⟩⟩ := items_at h k hk
  exact h2

theorem storeI {ops : Array Oper} {rest : List Oper} {o : Oper} {a : Act} {w : World} {Q : Exit → Act → World → Prop} (hgd : o.guard = none) (x y : Operand) (ho : o.op = .store 40 x y) (pv wv : Value) (it : Itm)
    (hx : a.eval x = .pointer (some ⟨w.heap.size, 0, none⟩)) (hy : a.eval y = .agg (itmCells pv wv it).toArray) (ok : UrlOk it.url) (h1 : (itmCells pv wv it).toArray.all (·.oneCell') = true)
    (h : wpList Tryd.prog ops Q rest (a.put o.dst undef) (w.alloc (.cells (itmCells pv wv it).toArray 40))) : wpList Tryd.prog ops Q (o :: rest) a (w.alloc (.cells ZI 40)) := by
  have hl := itmCells_len pv wv it ok
  exact store_new hgd 40 x y ho (itmCells pv wv it).toArray ZI 40 hx hy (by rw [List.size_toArray, hl]; kernel_rfl) (by rw [show (itmCells pv wv it).toArray.size = 25 by rw [List.size_toArray, hl]]; rfl) h1 h
theorem kb_url {nb : Nat} {pv wv : Value} {it : Itm} {w : World} (h : Kb nb (itmCells pv wv it).toArray w) : w.rangeAt nb 1 (urlCells pv it.url) := by
  have h0 : w.rangeAt nb 0 (itmCells pv wv it) := fun j v hj => by
    rw [Nat.zero_add, h.cell j, List.getElem?_toArray]; exact hj
  exact itm_url h0
theorem kb_words {nb : Nat} {pv wv : Value} {it : Itm} {w : World} (ok : UrlOk it.url) (h : Kb nb (itmCells pv wv it).toArray w) : w.cell? ⟨nb, 24, none⟩ = some wv := by
  have h0 : w.rangeAt nb 0 (itmCells pv wv it) := fun j v hj => by
    rw [Nat.zero_add, h.cell j, List.getElem?_toArray]; exact hj
  have := itm_words ok h0
  rw [Nat.zero_add] at this
  exact this
set_option maxHeartbeats 16000000 in
theorem elist_any (l : List Itm) (v : Value) (w : World) (h : Items w.heap.size w v l) (hs : ∀ i ∈ l, ItmSm i) (hn : l.length ≤ 20) (hE : NE w) :
    Calls Tryd.prog 19 #[v] w fun e w' => e = .returned (S (listF l)) ∧ Below w.heap.size w w' := by
  have hok := items_ok h
  obtain ⟨av, cc, hv⟩ := items_val h
  subst hv
  obtain ⟨N, hN⟩ : ∃ N, N = l.length := ⟨_, rfl⟩
  have hNm : N ≤ 20 := by omega
  have hll := listF_len l hok hs
  have hlk : ∀ k, (listF (l.take k)).length ≤ 5002002 * 20 := by
    intro k
    have h1 := listF_len (l.take k) (fun i hi => hok i (List.mem_of_mem_take hi)) (fun i hi => hs i (List.mem_of_mem_take hi))
    have : (l.take k).length ≤ 20 := by rw [List.length_take]; omega
    omega
  rw [← hN] at h ⊢
  have HI := Lib.hid h
  have HS := Lib.hid hs
  have HOK := Lib.hid hok
  have HN := Lib.hid hN
  have HLK := Lib.hid hlk
  have HE := Lib.hid hE
  clear h hs hok hN hlk hE hn hll
  go_enter Tryd.func19, Tryd.ntmps19
  go_wp2_with fail
  go_loopw [10] (fun iv wr => ∃ k : Nat, k ≤ N ∧ iv = .int .i64 k ∧ Hid (Hb w (listF (l.take k)) wr)) (fun i _ => N - (intOf i).toNat)
  case atStart => exact ⟨0, by omega, by simp, Hb.fresh w⟩
  case round =>
    obtain ⟨k, hk, rfl, hbd⟩ := hrel
    by_cases hlt : k < N
    · have hkl : k < l.length := by rw [← HN.out]; exact hlt
      have hlti : (k : Int) < N := by omega
      obtain ⟨b, o, rfl, hbb, hat⟩ := items_at HI.out k hkl
      obtain ⟨pv, wv, hrg, hok, hpv, hwv⟩ := hat
      have hsm := HS.out _ (List.getElem_mem hkl)
      have htk := listF_take l k hkl
      have hl0 := HLK.out k
      have hl1 := HLK.out (k + 1)
      generalize l[k] = it at hrg hok hpv hwv hsm htk
      generalize listF (l.take k) = T at hbd htk hl0
      have hL : T.length + 2 + (itemF it).length ≤ 5002002 * 21 := by
        have := itemF_len it hok hsm
        omega
      have hcl := itmCells_len pv wv it hok
      have hone := cells_one pv wv it (sl_one hpv) (sl_one hwv)
      have hau : UrlAt (urlCells pv it.url).toArray pv it.url := urlAt_of pv hok
      have huc := urlCells_len pv it.url hok
      have hser := fun (W : World) (hW : Below w.heap.size w W) (hp : Sl W.heap.size W pv (it.url.path.map S)) => swr_any it.url _ pv true W hau hp hsm.url (HE.out.below hW)
      have hrgw : World.rangeAt _ b (o + k * 25) (itmCells pv wv it) := fun j v hj => (hbd.out.bel.cell (p := ⟨b, o + k * 25 + j, none⟩) hbb).trans (hrg j v hj)
      have HRG := Lib.hid hrgw
      clear hrgw
      have HOKI := Lib.hid hok
      have HPV := Lib.hid hpv
      have HWV := Lib.hid hwv
      have HSM := Lib.hid hsm
      have HTK := Lib.hid htk
      have HLL := Lib.hid hL
      have HCL := Lib.hid hcl
      have HONE := Lib.hid hone
      have HUC := Lib.hid huc
      have HSER := Lib.hid hser
      clear hrg hok hpv hwv hsm htk hL hcl hone huc hser hau hl0 hl1 hlt
      go_upto_region 5 with (first
        | (refine wpList_load_mid rfl 40 _ rfl b (o + k * 25) rfl (itmCells pv wv it) _ HRG.out Tryd.underlying40 rfl (by rw [HCL.out]; kernel_rfl) ?_)
        | (refine alloc_to rfl 40 rfl _ _ (allI _) ?_)
        | (refine storeI rfl (.tmp 5) (.tmp 14) rfl pv wv it rfl rfl HOKI.out HONE.out ?_)
        | fail)
      have hk2 : Kb wr.heap.size (itmCells pv wv it).toArray (wr.alloc (.cells (itmCells pv wv it).toArray 40)) := heap_alloc_new wr _
      have hb2 : Hb w T (wr.alloc (.cells (itmCells pv wv it).toArray 40)) := hbd.out.step ((Below.refl _ _).alloc (Nat.le_refl _) _)
      generalize wr.heap.size = nb at hk2 hb2 ⊢
      generalize wr.alloc (.cells (itmCells pv wv it).toArray 40) = w2 at hk2 hb2 ⊢
      clear hbd HRG
      obtain ⟨wa, wc, hwv⟩ := slice_val HWV.out
      rw [List.length_map] at hwv
      obtain ⟨M, hM⟩ : ∃ M, M = it.words.length := ⟨_, rfl⟩
      rw [← hM] at hwv
      have HM := Lib.hid hM; clear hM
      have hMm : M ≤ 10 := by have := HM.out; have := HSM.out.n; omega
      have hifl := serF_len it.url HOKI.out HSM.out.url true
      have hwfl : ∀ j, (wordsF (it.words.take j)).length ≤ 1010 := by
        intro j
        have h1 := wordsF_len (it.words.take j) (fun x hx => HSM.out.w x (List.mem_of_mem_take hx))
        have h2 : (it.words.take j).length ≤ 10 := by rw [List.length_take]; have := HSM.out.n; omega
        omega
      have HWFL := Lib.hid hwfl; clear hwfl
      have hif : itemF it = serF it.url true ++ wordsF it.words := rfl
      have HIF := Lib.hid hif; clear hif
      have hTl : T.length + 2 ≤ 5002002 * 21 := by have := HLL.out; omega
      have hsep : k = 0 ∨ (0 : Int) < k := by omega
      rcases hsep with hk0 | hk0
      all_goals first
        | (skip
           have htk := HTK.out
           rw [if_pos hk0, List.append_nil] at htk
           have hk0i : ¬ (0 : Int) < k := by omega
           clear hk0
           obtain ⟨T1, hT1⟩ : ∃ T1, T1 = T := ⟨_, rfl⟩
           rw [← hT1] at htk hb2
           have hT1l : T1.length ≤ 5002002 * 21 := by rw [hT1]; omega
           have HB3 := Lib.hid hb2
           have HK3 := Lib.hid hk2
           have HTK1 := Lib.hid htk
           clear hT1 hb2 hk2 htk HTK
           obtain ⟨w3, hw3⟩ : ∃ w3, w3 = w2 := ⟨_, rfl⟩
           rw [← hw3] at HB3 HK3 ⊢
           clear hw3
           go_upto_region 7 with fail)
        | (skip
           have htk := HTK.out
           rw [if_neg (by omega)] at htk
           obtain ⟨T1, hT1⟩ : ∃ T1, T1 = T ++ [44, 32] := ⟨_, rfl⟩
           rw [← hT1] at htk
           have hT1l : T1.length ≤ 5002002 * 21 := by rw [hT1, List.length_append]; simp; omega
           have HT1 := Lib.hid hT1
           have HB2 := Lib.hid hb2
           have HK2 := Lib.hid hk2
           have HTK1 := Lib.hid htk
           clear hT1 hb2 hk2 htk HTK
           go_upto_region 7 with (first
             | (go_at_call 23; refine (Hb.ws2 [44, 32] HB2.out HK2.out (by simp; omega)).mono ?_; rintro e w3 ⟨rfl, hb3, hk3⟩; have HB3 := Lib.hid (HT1.out ▸ hb3); have HK3 := Lib.hid hk3; clear hb3 hk3)
             | fail))
      all_goals
        generalize serF it.url true = SE at HSER HIF hifl
        go_wp2_with (first
          | (refine wpList_load_mid rfl 32 _ rfl nb 1 rfl (urlCells pv it.url) _ (kb_url HK3.out) Tryd.underlying32 rfl (by rw [HUC.out]; kernel_rfl) ?_)
          | (go_at_call 12; refine (HSER.out _ HB3.out.bel ((HPV.out.below HB3.out.bel).more HB3.out.bel.size)).mono ?_; rintro e w4 ⟨rfl, hb4⟩; have HB4 := Lib.hid (HB3.out.step hb4); have HK4 := Lib.hid (HK3.out.below hb4); clear hb4)
          | (go_at_call 23; refine (Hb.ws2 SE HB4.out HK4.out (by omega)).mono ?_; rintro e w5 ⟨rfl, hb5, hk5⟩; have cw := (kb_words HOKI.out hk5).trans (congrArg some hwv); have HB5 := Lib.hid hb5; have HK5 := Lib.hid hk5; clear hb5 hk5)
          | fail)
        have HWVE := Lib.hid hwv; clear hwv cw
        go_loopw [25] (fun jv wr => ∃ j : Nat, j ≤ M ∧ jv = .int .i64 j ∧ Hid (Hb w (T1 ++ SE ++ wordsF (it.words.take j)) wr) ∧ Hid (Kb nb (itmCells pv wv it).toArray wr)) (fun j _ => M - (intOf j).toNat)
        case atStart => exact ⟨0, by omega, by simp, (by have := HB5.out; show Hb w (T1 ++ SE ++ wordsF []) _; rw [show wordsF [] = [] from rfl, List.append_nil]; exact this), HK5.out⟩
        case round =>
          obtain ⟨j, hj, rfl, hbj, hkj⟩ := hrel
          by_cases hjl : j < M
          · have hjw : j < it.words.length := by rw [← HM.out]; exact hjl
            have hwvs := HWV.out.below hbj.out.bel
            rw [HWVE.out] at hwvs
            obtain ⟨wb, wo, rfl, hwb, hwc⟩ := strs_at hwvs j hjw
            have hwt := wordsF_take it.words j hjw
            have hwl := HSM.out.w _ (List.getElem_mem hjw)
            have hf1 := HWFL.out j
            generalize it.words[j] = word at hwc hwt hwl
            generalize wordsF (it.words.take j) = U at hbj hwt hf1
            have HWT := Lib.hid hwt; clear hwt hwvs
            have hLn : (T1 ++ SE ++ U).length ≤ 5002002 * 21 + 5000000 + 1010 := by rw [List.length_append, List.length_append]; omega
            go_wp2_with (first
              | (go_at_call 24; refine (Hb.wb2 32 _ rfl hbj.out hkj.out (by omega)).mono ?_; rintro e w6 ⟨rfl, hb6, hk6⟩; have HB6 := Lib.hid hb6; have HK6 := Lib.hid hk6; clear hb6 hk6)
              | (go_at_call 23; refine (Hb.ws2 word HB6.out HK6.out (by rw [List.length_append]; simp only [List.length_cons, List.length_nil]; omega)).mono ?_; rintro e w7 ⟨rfl, hb7, hk7⟩; have HB7 := Lib.hid hb7; have HK7 := Lib.hid hk7; clear hb7 hk7)
              | fail)
            have h7 : Hb w (T1 ++ SE ++ wordsF (it.words.take (j + 1))) w7 := by
              have h := HB7.out
              rw [HWT.out]
              simp only [List.append_assoc] at h ⊢
              exact h
            have H7 := Lib.hid h7; clear h7
            go_roundw
            case rel =>
              first
                | exact ⟨j + 1, by omega, by simp, H7.out, HK7.out⟩
                | ((repeat apply Exists.intro); exact ⟨⟨j + 1, by omega, by simp, H7.out, HK7.out⟩, rfl⟩)
            case measure => simp [intOf]; omega
          · obtain rfl : j = M := by omega
            have hU : T1 ++ SE ++ wordsF (it.words.take j) = listF (l.take (k + 1)) := by
              rw [HM.out, List.take_length, HTK1.out, HIF.out, List.append_assoc]
            have HU := Lib.hid (hU ▸ hbj.out); clear hU hbj
            go_wp2_with fail
            go_roundw
            case rel =>
              first
                | exact ⟨k + 1, by omega, by simp, HU.out⟩
                | ((repeat apply Exists.intro); exact ⟨⟨k + 1, by omega, by simp, HU.out⟩, rfl⟩)
            case measure => simp [intOf]; omega
    · obtain rfl : k = N := by omega
      go_wp2_with (first | (go_at_call 29; refine (Hb.str hbd.out).mono ?_; rintro e w2 ⟨rfl, hb2⟩; have HB2 := Lib.hid hb2; clear hb2) | fail)
      go_ret
      refine ⟨?_, HB2.out⟩
      rw [HN.out, List.take_length]; rfl
end Go.Proofs.YtcmpjklkdmpglaaDoor
