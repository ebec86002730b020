/- The walk of EmitFits, for texts up to 1048576 bytes. -/
import Derived.Test.YtpckaimpjccjhaaGreatDoorMLaw24E
import Derived.Test.YtpckaimpjccjhaaGreatDoorGSrcZ
import Derived.Test.YtpckaimpjccjhaaGreatDoorGNumT
import Derived.Test.YtpckaimpjccjhaaGreatDoorGSixF
import Derived.Test.YtpckaimpjccjhaaGreatDoorGWlkT
set_option maxHeartbeats 40000000
namespace Go.Proofs.YtpckaimpjccjhaaGreatDoor
open Go.RowKit
set_option maxRecDepth 10000
theorem ser_ul {L M : Nat} {u : Url} (h : Ul L M u) (ok : UrlOk u) (hL : L <= 1000) (hM : M <= 1000000) : (serF u true).length <= 110000000 := by
 have hs := ul_sm h hL (by omega)
 have h2 := hostF_len u.host ok.h 102400000 hs.name
 have h3 := portF_len u ok
 have a1 := h.usr
 have a2 := h.pas
 have a3 := h.flat
 have a4 := h.path
 have a5 := h.q
 have a6 := h.f
 have a7 := h.sch
 have hw : (whoF u).length <= 6002 := by
  unfold whoF
  split
  ·simp
  ·split <;> simp only [List.length_append, List.length_cons, List.length_nil] <;> omega
 have ha : (aheadF u).length <= 102407000 := by
  unfold aheadF dotF
  split
  ·split <;> simp
  ·simp only [List.length_append, List.length_cons, List.length_nil]; omega
 have hp : (pathF u).length <= 1003003 := by
  unfold pathF
  split <;> omega
 have hq : (qF u).length <= 3001 := by
  unfold qF
  split
  ·rw [List.length_append, List.length_singleton]; omega
  ·simp
 have hf : (frF u true).length <= 3001 := by
  unfold frF
  split
  ·rw [List.length_append, List.length_singleton]; omega
  ·simp
 unfold serF
 simp only [List.length_append, List.length_cons, List.length_nil]
 omega
theorem read_len {s : Bytes} {u : Url} (hs : s.length <= 1000) (h : readU s = some u) : (serF u true).length <= 110000000 :=
 ser_ul (ul_readU hs (by omega) h) (good_ok (readU_good h)) (Nat.le_refl _) (by omega)
section
variable {ops : Array Oper} {rest : List Oper} {o : Oper} {a : Act} {w : World} {Q : Exit -> Act -> World -> Prop}
end
theorem emitFits_walk (t : ByteArray) (n : Int) (w : World) (_ : t.size <= maxLen) (_ : (Lit.int .i64 n).wf = true) (ub : t.size <= 1048576) (hE : Env w) (hN : NE w) :
  Calls Tryz.prog 12 #[.string t, .int .i64 n] w fun e w' => e = .returned (.bool true) ∧ Below w.heap.size w w' := by
 have HSM := h_ (small25_any w hN)
 have hba := fun (W : World) (hW : Below w.heap.size w W) => base24_any t W ub (hE.below hW)
 cases hb : readU (ls t) with
 | none =>
  rw [hb] at hba
  have HBA := h_ (show ∀ W, Below w.heap.size w W -> Calls Tryz.prog 28 #[.string t] W fun e w' => e = .returned (.tuple #[.agg (uCells nilV U0), .bool false]) ∧ Below W.heap.size W w' from hba)
  clear hba hb hE hN
  go_enter Tryz.func12, Tryz.ntmps12
  go_wp2_with (first
   | (go_at_call 38; refine HSM.out.mono ?_; rintro e w1 ⟨rfl, hb1⟩; have HB1 := h_ hb1; clear hb1)
   | (go_at_call 28; refine (HBA.out _ HB1.out).mono ?_; rintro e w2 ⟨rfl, hb⟩; have HC2 := h_ hb; clear hb)
   | (refine alloc_to rfl 30 rfl _ _ (allUrl _) ?_)
   | (refine storeUrl rfl (.tmp 6) (.tmp 16) rfl nilV U0 rfl rfl rfl rfl rfl ?_; intro w3 _ hb; have HB3 := h_ (stp HB1.out (stp HC2.out hb)); clear hb)
   | fail)
  go_ret
  exact ⟨rfl, HB3.out⟩
 | some b =>
  rw [hb] at hba
  have B8 := h_ (readU_sx hb)
  by_cases ht5 : t.size <= 300
  case neg =>
   have HBA := h_ (show ∀ W, Below w.heap.size w W -> Calls Tryz.prog 28 #[.string t] W fun e w' => ∃ pv, e = .returned (.tuple #[.agg (uCells pv b), .bool false]) ∧ w'.ownsRow W.heap.size 9 1 pv b.path.length (Strs b.path) ∧ Below W.heap.size W w' from fun W hW => by have h := hba W hW; unfold BaseQ at h; rw [decide_eq_false ht5] at h; exact h)
   clear hba hb hE hN ht5
   go_enter Tryz.func12, Tryz.ntmps12
   go_wp2_with (first
    | (go_at_call 38; refine HSM.out.mono ?_; rintro e w1 ⟨rfl, hb1⟩; have HB1 := h_ hb1; clear hb1)
    | (go_at_call 28; refine (HBA.out _ HB1.out).mono ?_; rintro e w2 ⟨bv, rfl, oo, hb⟩; have HC2 := h_ hb; have OC2 := h_ (own_base oo HB1.out.size); clear hb oo)
    | (refine alloc_to rfl 30 rfl _ _ (allUrl _) ?_)
    | (refine storeUrl rfl (.tmp 6) (.tmp 16) rfl bv b B8.out (own_one OC2.out) rfl rfl rfl ?_; intro w3 _ hb; have HB3 := h_ (stp HB1.out (stp HC2.out hb)); clear hb)
    | fail)
   go_ret
   exact ⟨rfl, HB3.out⟩
  case pos =>
   have HBA := h_ (show ∀ W, Below w.heap.size w W -> Calls Tryz.prog 28 #[.string t] W fun e w' => ∃ pv, e = .returned (.tuple #[.agg (uCells pv b), .bool true]) ∧ w'.ownsRow W.heap.size 9 1 pv b.path.length (Strs b.path) ∧ Below W.heap.size W w' from fun W hW => by have h := hba W hW; unfold BaseQ at h; rw [decide_eq_true ht5] at h; exact h)
   have htl : (ls t).length <= 1000 := by rw [ls_length]; omega
   have UK := uok_read htl hb
   have hsl := read_len htl hb
   clear hba
   by_cases hr : 1 <= n ∧ n <= 1000000
   case neg =>
    have hcs : n < 1 ∨ (¬ n < 1 ∧ (1000000 : Int) < n) := by omega
    clear hb hE hN ht5 hr UK hsl htl
    rcases hcs with h1 | ⟨h1, h2⟩ <;>
    ·go_enter Tryz.func12, Tryz.ntmps12
     go_wp2_with (first
      | (go_at_call 38; refine HSM.out.mono ?_; rintro e w1 ⟨rfl, hb1⟩; have HB1 := h_ hb1; clear hb1)
      | (go_at_call 28; refine (HBA.out _ HB1.out).mono ?_; rintro e w2 ⟨bv, rfl, oo, hb⟩; have HC2 := h_ hb; have OC2 := h_ (own_base oo HB1.out.size); clear hb oo)
      | (refine alloc_to rfl 30 rfl _ _ (allUrl _) ?_)
      | (refine storeUrl rfl (.tmp 6) (.tmp 16) rfl bv b B8.out (own_one OC2.out) rfl rfl rfl ?_; intro w3 _ hb; have HB3 := h_ (stp HB1.out (stp HC2.out hb)); clear hb)
      | fail)
     go_ret
     exact ⟨rfl, HB3.out⟩
   case pos =>
    have hn1 : ¬ n < 1 := by omega
    have hn2 : ¬ (1000000 : Int) < n := by omega
    have hwok := wok_text hr.1 hr.2
    have hone := one_fits (s := serF b true) hwok
    have HUW := h_ (fun (W : World) (pv : Value) (hW : Below w.heap.size w W) (o : Sl W.heap.size W pv (b.path.map S)) => uwr_any b pv W UK o (hN.below hW))
    have HFI := h_ (fun (W : World) (pv : Value) (hW : Below w.heap.size w W) (o : Sl W.heap.size W pv (b.path.map S)) => fits_any b (uCells pv b) pv W (urlAt_of pv UK.ok) o UK.sm (hN.below hW))
    have HTX := h_ (fun W => show Calls Tryz.prog 31 #[.int .i64 n] W fun e w' => e = .returned (S (Lib.itoa n)) ∧ Below W.heap.size W w' from by
     have h := rText_pos n.toNat W (by omega)
     rw [show ((n.toNat : Nat) : Int) = n by omega] at h
     have e1 : Lib.itoa n = Lib.decDigits n.toNat := by unfold Lib.itoa; rw [if_neg (by omega)]
     rw [e1]
     exact h)
    obtain ⟨sb, hsb⟩ := ex_ (serF b true)
    rw [<- hsb] at hone hsl HUW HFI
    obtain ⟨wb, hwb⟩ := ex_ (Lib.itoa n ++ [119])
    rw [<- hwb] at hone hwok
    have hwl : wb.length <= 100 := by
     have := itoa_len n (by omega) (by omega)
     rw [hwb, List.length_append]; simp; omega
    obtain ⟨ts, hts⟩ := ex_ (bs sb)
    obtain ⟨tn, htn⟩ := ex_ (bs (Lib.itoa n))
    obtain ⟨tw, htw⟩ := ex_ (bs wb)
    have e0 : tn ++ ⟨#[119]⟩ = tw := by rw [htn, htw, hwb]; exact bs_app _ [119]
    obtain ⟨u1, hu1⟩ := ex_ (bs (sb ++ [32]))
    obtain ⟨u2, hu2⟩ := ex_ (bs (sb ++ [32] ++ wb))
    obtain ⟨u3, hu3⟩ := ex_ (bs (sb ++ [32] ++ wb ++ [44, 32]))
    obtain ⟨u4, hu4⟩ := ex_ (bs (sb ++ (32 :: (wb ++ (44 :: 32 :: sb)))))
    have e1 : ts ++ ⟨#[32]⟩ = u1 := by rw [hts, hu1]; exact bs_app _ [32]
    have e2 : u1 ++ tw = u2 := by rw [hu1, hu2, htw]; exact bs_app _ _
    have e3 : u2 ++ ⟨#[44, 32]⟩ = u3 := by rw [hu2, hu3]; exact bs_app _ [44, 32]
    have e4 : u3 ++ ts = u4 := by rw [hu3, hu4, hts, bs_app]; congr 1; simp
    have z0 : ts.size = sb.length := by rw [hts, bs_size]
    have z1 : u1.size = sb.length + 1 := by rw [hu1, bs_size]; simp
    have z2 : u2.size = sb.length + 1 + wb.length := by rw [hu2, bs_size, List.length_append, List.length_append]; rfl
    have z3 : u3.size = sb.length + 1 + wb.length + 2 := by rw [hu3, bs_size, List.length_append, List.length_append, List.length_append]; rfl
    have zw : tw.size = wb.length := by rw [htw, bs_size]
    have zn : tn.size <= 100 := by
     have := itoa_len n (by omega) (by omega)
     rw [htn, bs_size]; omega
    have q0 : ¬ 9223372036854775807 < tn.size + 1 := by omega
    have q1 : ¬ 9223372036854775807 < ts.size + 1 := by omega
    have q2 : ¬ 9223372036854775807 < u1.size + tw.size := by omega
    have q3 : ¬ 9223372036854775807 < u2.size + 2 := by omega
    have q4 : ¬ 9223372036854775807 < u3.size + ts.size := by omega
    have hsp := fun (W : World) (hW : Below w.heap.size w W) => ssplit19_any (sb ++ (32 :: (wb ++ (44 :: 32 :: sb)))) W (by simp; omega) (hE.below hW)
    rw [<- hu4] at hsp
    have HSP := h_ hsp
    have HTXT := h_ (show ∀ W, Calls Tryz.prog 31 #[.int .i64 n] W fun e w' => e = .returned (.string tn) ∧ Below W.heap.size W w' from by rw [htn]; exact HTX.out)
    have HUW2 := h_ (show ∀ (W : World) (pv : Value), Below w.heap.size w W -> Sl W.heap.size W pv (b.path.map S) -> Calls Tryz.prog 39 #[.agg (uCells pv b), .bool true] W fun e w' => e = .returned (.string ts) ∧ Below W.heap.size W w' from by rw [hts]; exact HUW.out)
    have HON := h_ hone
    have HTS := h_ hts
    have HTW := h_ htw
    have HSB := h_ hsb
    have HWO := h_ hwok
    have HUK := h_ UK
    clear hsp hone hu1 hu2 hu3 hu4 z0 z1 z2 z3 zw zn hts htn htw hsb hwb hb hE hN htl ht5 hr hwok UK HUW HTX hsl hwl
    go_enter Tryz.func12, Tryz.ntmps12
    go_upto_region 8 with (first
     | (go_at_call 38; refine HSM.out.mono ?_; rintro e w1 ⟨rfl, hb1⟩; have HB1 := h_ hb1; clear hb1)
     | (go_at_call 28; refine (HBA.out _ HB1.out).mono ?_; rintro e w2 ⟨bv, rfl, oo, hb⟩; have HC2 := h_ hb; have OC2 := h_ (own_base oo HB1.out.size); clear hb oo)
     | (refine alloc_to rfl 30 rfl _ _ (allUrl _) ?_)
     | (refine storeUrl rfl (.tmp 6) (.tmp 16) rfl bv b B8.out (own_one OC2.out) rfl rfl rfl ?_; intro w3 hh hb; have HH3 := h_ hh; have HB3 := h_ (stp HB1.out (stp HC2.out hb)); have HS3 := h_ (Sl.of_own (own_ts (own_below' OC2.out hb))); clear hb hh)
     | (refine loadUrl (by rfl) (.tmp 6) rfl w2.heap.size bv b B8.out rfl HH3.out ?_)
     | (go_at_call 39; refine (HUW2.out _ _ HB3.out HS3.out).mono ?_; rintro e w4 ⟨rfl, hb⟩; have HC4 := h_ hb; have HB4 := h_ (stp HB3.out hb); clear hb)
     | (go_at_call 31; refine (HTXT.out _).mono ?_; rintro e w5 ⟨rfl, hb⟩; have HC5 := h_ (HC4.out.trans (hb.mono HC4.out.size)); have HB5 := h_ (stp HB4.out hb); clear hb)
     | (go_at_call 30; refine (HSP.out _ HB5.out).mono ?_; rintro e w6 ⟨lv, rfl, hc, hb⟩; have HR6 := h_ hc; have HC6 := h_ (HC5.out.trans (hb.mono HC5.out.size)); have HB6 := h_ (stp HB5.out hb); clear hb hc)
     | fail)
    have HU6 := h_ (show CB w6 w2.heap.size 30 (uCells bv b) ∧ Sl w6.heap.size w6 bv (b.path.map S) from ⟨(show CB w3 _ _ _ from ⟨HH3.out.a⟩).keep HC6.out, (HS3.out.below HC6.out).more HC6.out.size⟩)
    have hone := HON.out
    have hR6 := HR6.out
    have hlen := hR6.len
    cases hf : fitsF sb with
    | true =>
     rw [hf] at HFI
     have hL := fit_src ((fits_iff sb).mp hf) HWO.out
     rw [hL] at hR6
     obtain ⟨cc, hcc, ⟨h0, _⟩ | ⟨b0, o0, hb0, hlv, hat⟩⟩ := hR6.cands (by simp [maxLen])
     ·cases h0
     obtain ⟨wv0, hr0, hs0⟩ := hat 0 (by simp)
     obtain ⟨wv1, hr1, hs1⟩ := hat 1 (by simp)
     have k0 : w6.cell? ⟨b0, o0, none⟩ = some (.string ts) := by rw [HTS.out]; exact hr0 0 (S sb) rfl
     have k1 : w6.cell? ⟨b0, o0 + 1, none⟩ = some wv0 := hr0 1 wv0 rfl
     have k8 : w6.cell? ⟨b0, o0 + 8, none⟩ = some (.string ts) := by rw [HTS.out]; exact hr1 0 (S sb) rfl
     have k9 : w6.cell? ⟨b0, o0 + 9, none⟩ = some wv1 := hr1 1 wv1 rfl
     obtain ⟨a0, c0, rfl⟩ := slice_val hs0
     obtain ⟨a1, c1, rfl⟩ := slice_val hs1
     have HS0 := h_ hs0
     subst hlv
     clear hone hR6 hlen hL hcc hat hr0 hr1 hs0 hs1 hf
     have hs7 := sl_one w6 9 (.string tw)
     have hb7 := (Below.refl w6.heap.size w6).alloc (Nat.le_refl _) (.cells #[.string tw] 9)
     obtain ⟨w7, hw7⟩ := ex_ (w6.alloc (.cells #[.string tw] 9))
     rw [<- hw7] at hs7 hb7
     have HW7 := h_ hw7
     have HC7 := h_ hb7
     have hsame := rsame1_any [wb] [wb] (.slice a0 1 c0) (.slice (some ⟨w6.heap.size, 0, none⟩) 1 1) w7 _ _ (HS0.out.below hb7) (by rw [HTW.out] at hs7; exact hs7)
     rw [decide_eq_true rfl] at hsame
     have HSAME := h_ hsame
     clear hs7 hb7 hw7 hsame
     go_wp2_with fail
     rw [<- HW7.out]
     refine HSAME.out.mono ?_
     rintro e w8 ⟨rfl, hb8⟩
     have hb68 := HC7.out.trans (hb8.mono HC7.out.size)
     have HC8 := h_ hb68
     have l8 : w8.cell? ⟨b0, o0 + 8, none⟩ = some (.string ts) := (hb68.cell (p := ⟨b0, o0 + 8, none⟩) hb0).trans k8
     have l9 : w8.cell? ⟨b0, o0 + 9, none⟩ = some (.slice a1 0 c1) := (hb68.cell (p := ⟨b0, o0 + 9, none⟩) hb0).trans k9
     have HU8 := h_ (HU6.out.1.keep hb68)
     have HFI8 := h_ (HFI.out w8 bv (HB6.out.trans (hb68.mono HB6.out.size)) ((HU6.out.2.below hb68).more hb68.size))
     have HB8 := h_ (stp HB6.out hb68)
     clear hb8 hb68 k0 k1 k8 k9
     go_wp2_with (first
      | (refine loadUrl (by rfl) (.tmp 6) rfl w2.heap.size bv b B8.out rfl ⟨HU8.out.a⟩ ?_)
      | (go_at_call 40; refine HFI8.out.mono ?_; rintro e w9 ⟨rfl, hb⟩; have HB9 := h_ (stp HB8.out hb); clear hb)
      | fail)
     go_ret
     exact ⟨rfl, HB9.out⟩
    | false =>
     rw [hf] at HFI
     obtain ⟨al, cl, rfl⟩ := hlen
     have hall := src_fit (sb ++ (32 :: (wb ++ (44 :: 32 :: sb)))).length (sb ++ (32 :: (wb ++ (44 :: 32 :: sb))))
     change ∀ c ∈ srcF _, Fit c.url at hall
     generalize srcF (sb ++ (32 :: (wb ++ (44 :: 32 :: sb)))) = L at *
     by_cases hl2 : L.length = 2
     ·obtain ⟨A, B, rfl⟩ : ∃ A B, L = [A, B] := by
       match L, hl2 with
       | [A, B], _ => exact ⟨A, B, rfl⟩
      have hne : A.url ≠ sb := fun e => by
       have := (fits_iff sb).mpr (e ▸ hall A (by simp))
       rw [hf] at this; cases this
      obtain ⟨cc, hcc, ⟨h0, _⟩ | ⟨b0, o0, hb0, hlv, hat⟩⟩ := hR6.cands (by simp [maxLen])
      ·cases h0
      obtain ⟨wv0, hr0, hs0⟩ := hat 0 (by simp)
      obtain ⟨tA, htA⟩ := ex_ (bs A.url)
      have k0 : w6.cell? ⟨b0, o0, none⟩ = some (.string tA) := by rw [htA]; exact hr0 0 (S A.url) rfl
      have hse := sEq A.url sb
      rw [decide_eq_false hne, <- htA, <- HTS.out] at hse
      injection hlv with q1 q2 q3
      subst q1
      subst q3
      clear hone hR6 hall hf hl2 hne hcc hat hr0 hs0 htA q2
      have HFI6 := h_ (HFI.out w6 bv HB6.out HU6.out.2)
      go_wp2_with (first
       | (refine loadUrl (by rfl) (.tmp 6) rfl w2.heap.size bv b B8.out rfl ⟨HU6.out.1.a⟩ ?_)
       | (go_at_call 40; refine HFI6.out.mono ?_; rintro e w9 ⟨rfl, hb⟩; have HB9 := h_ (stp HB6.out hb); clear hb)
       | fail)
      go_ret
      exact ⟨rfl, HB9.out⟩
     ·have hl2i : ((L.length : Int) == 2) = false := by rw [beq_eq_false_iff_ne]; omega
      generalize L.length = LL at *
      clear hone hR6 hall hf hl2 HR6
      have HFI6 := h_ (HFI.out w6 bv HB6.out HU6.out.2)
      go_wp2_with (first
       | (refine loadUrl (by rfl) (.tmp 6) rfl w2.heap.size bv b B8.out rfl ⟨HU6.out.1.a⟩ ?_)
       | (go_at_call 40; refine HFI6.out.mono ?_; rintro e w9 ⟨rfl, hb⟩; have HB9 := h_ (stp HB6.out hb); clear hb)
       | fail)
      go_ret
      exact ⟨rfl, HB9.out⟩
end Go.Proofs.YtpckaimpjccjhaaGreatDoor
