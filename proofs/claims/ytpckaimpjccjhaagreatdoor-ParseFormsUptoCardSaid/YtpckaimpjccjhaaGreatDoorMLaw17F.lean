/- The walk of ParseForms, for texts up to 1048576 bytes (written by genF17.py). -/
import Derived.Test.YtpckaimpjccjhaaGreatDoorMLaw17U
import Derived.Test.YtpckaimpjccjhaaGreatDoorGAthW
set_option maxHeartbeats 40000000
namespace Go.Proofs.YtpckaimpjccjhaaGreatDoor
open Go.RowKit
set_option maxRecDepth 10000
theorem low_low (x : UInt8) : lowB (lowB x) = lowB x := all_bytes (P := fun x => lowB (lowB x) = lowB x) (by decide +kernel) x
theorem up_of {c : Bytes} (h : (splitF c).hasS = true) : upS (splitF c).sch = (splitF c).sch.map upB := by
 obtain ⟨a, d, _, _, e⟩ := split_has h
 unfold upS
 rw [e]
 simp only [List.map_map]
 refine List.map_congr_left fun x _ => ?_
 show upB (lowB (lowB x)) = upB (lowB x)
 rw [low_low]
theorem upf_step {l : Bytes} {k : Nat} (h : k < l.length) : bs ((l.take k).map upB) ++ bs [upB l[k]] = bs ((l.take (k + 1)).map upB) := by
 rw [bs_app, List.take_succ_eq_append_getElem h, List.map_append]
 rfl
theorem sch_le {c : Bytes} (h : (splitF c).hasS = true) : (splitF c).sch.length <= c.length := by
 obtain ⟨a, d, _, e1, e⟩ := split_has h
 rw [e, List.length_map]
 have := congrArg List.length e1
 rw [List.length_append] at this
 omega
theorem b2_back (x : UInt8) : UInt8.ofNat (b2 x).toNat = x := by unfold b2; rw [Int.toNat_natCast]; exact UInt8.ofNat_toNat
theorem trimF_lenF (s : Bytes) : (trimF s).length <= s.length := by
 unfold trimF
 rw [List.length_reverse]
 refine Nat.le_trans (List.dropWhile_suffix _).length_le ?_
 rw [List.length_reverse]
 exact (List.dropWhile_suffix _).length_le
theorem clean_le (s : Bytes) : (cleanF s).length <= s.length := by
 rw [clean_is]
 exact Nat.le_trans (trimF_lenF _) (tight_len _)
theorem parseForms_walk (t s : ByteArray) (at0 : Int) (w : World) (_ : t.size <= maxLen) (_ : s.size <= maxLen) (_ : (Lit.int .i64 at0).wf = true) (ub : t.size <= 1048576) (_ : s.size <= 1048576) (hE : Env w) (hN : NE w) :
  Calls Tryz.prog 3 #[.string t, .string s, .int .i64 at0] w fun e w' => e = .returned (.bool true) ∧ Below w.heap.size w w' := by
 have HSM := h_ (small17_any w hE hN)
 have hba := fun (W : World) (hW : Below w.heap.size w W) => base17_any t W ub (hE.below hW)
 cases hb : readU (ls t) with
 | none =>
  rw [hb] at hba
  have HBA := h_ (show ∀ W, Below w.heap.size w W -> Calls Tryz.prog 15 #[.string t] W fun e w' => e = .returned (.tuple #[.agg (uCells nilV U0), .bool false]) ∧ Below W.heap.size W w' from hba)
  clear hba hb hE hN
  go_enter Tryz.func3, Tryz.ntmps3
  go_wp2_with (first
   | (go_at_call 14; refine HSM.out.mono ?_; rintro e w1 ⟨rfl, hb1⟩; have HB1 := h_ hb1; clear hb1)
   | (go_at_call 15; refine (HBA.out _ HB1.out).mono ?_; rintro e w2 ⟨rfl, hb⟩; have HC2 := h_ hb; clear hb)
   | (refine alloc_to rfl 30 rfl _ _ (allUrl _) ?_)
   | (refine storeUrl rfl (.tmp 8) (.tmp 29) rfl nilV U0 rfl rfl rfl rfl rfl ?_; intro w3 _ hb; have HB3 := h_ (stp HB1.out (stp HC2.out hb)); clear hb)
   | fail)
  go_ret
  exact ⟨rfl, HB3.out⟩
 | some b =>
  rw [hb] at hba
  have B8 := h_ (readU_six hb)
  by_cases ht5 : t.size <= 500
  case neg =>
   have HBA := h_ (show ∀ W, Below w.heap.size w W -> Calls Tryz.prog 15 #[.string t] W fun e w' => ∃ pv, e = .returned (.tuple #[.agg (uCells pv b), .bool false]) ∧ w'.ownsRow W.heap.size 9 1 pv b.path.length (Strs b.path) ∧ Below W.heap.size W w' from fun W hW => by have h := hba W hW; unfold BaseP at h; rw [decide_eq_false ht5] at h; exact h)
   clear hba hb hE hN ht5
   go_enter Tryz.func3, Tryz.ntmps3
   go_wp2_with (first
    | (go_at_call 14; refine HSM.out.mono ?_; rintro e w1 ⟨rfl, hb1⟩; have HB1 := h_ hb1; clear hb1)
    | (go_at_call 15; refine (HBA.out _ HB1.out).mono ?_; rintro e w2 ⟨bv, rfl, oo, hb⟩; have HC2 := h_ hb; have OC2 := h_ (own_base oo HB1.out.size); clear hb oo)
    | (refine alloc_to rfl 30 rfl _ _ (allUrl _) ?_)
    | (refine storeUrl rfl (.tmp 8) (.tmp 29) rfl bv b B8.out (own_one OC2.out) rfl rfl rfl ?_; intro w3 _ hb; have HB3 := h_ (stp HB1.out (stp HC2.out hb)); clear hb)
    | fail)
   go_ret
   exact ⟨rfl, HB3.out⟩
  case pos =>
   have HBA := h_ (show ∀ W, Below w.heap.size w W -> Calls Tryz.prog 15 #[.string t] W fun e w' => ∃ pv, e = .returned (.tuple #[.agg (uCells pv b), .bool true]) ∧ w'.ownsRow W.heap.size 9 1 pv b.path.length (Strs b.path) ∧ Below W.heap.size W w' from fun W hW => by have h := hba W hW; unfold BaseP at h; rw [decide_eq_true ht5] at h; exact h)
   clear hba
   by_cases hgo : s.size <= 500 ∧ 0 <= at0 ∧ at0 <= s.size
   case neg =>
    have hcs : (500 : Int) < s.size ∨ (¬ (500 : Int) < s.size ∧ at0 < 0) ∨ (¬ (500 : Int) < s.size ∧ ¬ at0 < 0 ∧ (s.size : Int) < at0) := by omega
    clear hb hE hN ht5 hgo
    rcases hcs with h1 | ⟨h1, h2⟩ | ⟨h1, h2, h3⟩ <;>
    ·go_enter Tryz.func3, Tryz.ntmps3
     go_wp2_with (first
      | (go_at_call 14; refine HSM.out.mono ?_; rintro e w1 ⟨rfl, hb1⟩; have HB1 := h_ hb1; clear hb1)
      | (go_at_call 15; refine (HBA.out _ HB1.out).mono ?_; rintro e w2 ⟨bv, rfl, oo, hb⟩; have HC2 := h_ hb; have OC2 := h_ (own_base oo HB1.out.size); clear hb oo)
      | (refine alloc_to rfl 30 rfl _ _ (allUrl _) ?_)
      | (refine storeUrl rfl (.tmp 8) (.tmp 29) rfl bv b B8.out (own_one OC2.out) rfl rfl rfl ?_; intro w3 hh hb; have HB3 := h_ (stp HB1.out (stp HC2.out hb)); clear hb hh)
      | fail)
     go_ret
     exact ⟨rfl, HB3.out⟩
   case pos =>
    obtain ⟨hs5, ha0, has⟩ := hgo
    have hsi : ¬ (500 : Int) < s.size := by omega
    have hai : ¬ at0 < 0 := by omega
    have hasi : ¬ (s.size : Int) < at0 := by omega
    have htl : (ls t).length <= 500 := by rw [ls_length]; exact ht5
    have hsl : (ls s).length <= 500 := by rw [ls_length]; exact hs5
    have BK := uok_read (by omega) hb
    obtain ⟨R, hR⟩ := ex_ (readJ b (ls s))
    obtain ⟨uu, huu⟩ := ex_ (R.getD U0)
    obtain ⟨q, hq⟩ := ex_ (R.isSome)
    have KU := h_ (show UOk uu by
     rw [huu]
     cases hR' : R with
     | none => exact uok_0
     | some u => exact uok_rd (s := ls s) htl (by omega) hb (by rw [<- hR, hR']; rfl))
    have hj : ∀ x : Bytes, x.length <= 1000000 -> readJ b x = R -> ∀ bv (W : World), Below w.heap.size w W -> Sl W.heap.size W bv (b.path.map S) -> Calls Tryz.prog 16 #[.agg (uCells bv b), .string (bs x)] W fun e w' => ∃ pv, e = .returned (.tuple #[.agg (uCells pv uu), .bool q]) ∧ w'.ownsRow W.heap.size 9 1 pv uu.path.length (Strs uu.path) ∧ Below W.heap.size W w' := fun x hx hr bv W hW o => by rw [huu, hq]; exact join_get BK hx hr hE hW o
    obtain ⟨c, hc⟩ := ex_ (cleanF (ls s))
    have hcl : c.length <= 500 := by rw [hc]; exact Nat.le_trans (clean_le _) hsl
    obtain ⟨P, hP⟩ := ex_ (splitF c)
    obtain ⟨x1, hx1⟩ : ∃ x1, (⟨#[31, 32]⟩ : ByteArray) ++ s = x1 := ⟨_, rfl⟩
    obtain ⟨x2, hx2⟩ : ∃ x2, x1 ++ (⟨#[32, 0]⟩ : ByteArray) = x2 := ⟨_, rfl⟩
    have hx1z : x1.size <= 1000 := by rw [<- hx1, ByteArray.size_append]; show 2 + s.size <= 1000; omega
    have e2 : x2 = bs ([31, 32] ++ ls s ++ [32, 0]) := by rw [<- hx2, <- hx1, <- bs_app, <- bs_app, bs_ls]; rfl
    have J0 := h_ (show ∀ bv (W : World), Below w.heap.size w W -> Sl W.heap.size W bv (b.path.map S) -> Calls Tryz.prog 16 #[.agg (uCells bv b), .string s] W fun e w' => ∃ pv, e = .returned (.tuple #[.agg (uCells pv uu), .bool q]) ∧ w'.ownsRow W.heap.size 9 1 pv uu.path.length (Strs uu.path) ∧ Below W.heap.size W w' from by have := hj (ls s) (by omega) hR.symm; rw [bs_ls] at this; exact this)
    have J1 := h_ (show ∀ bv (W : World), Below w.heap.size w W -> Sl W.heap.size W bv (b.path.map S) -> Calls Tryz.prog 16 #[.agg (uCells bv b), .string x2] W fun e w' => ∃ pv, e = .returned (.tuple #[.agg (uCells pv uu), .bool q]) ∧ w'.ownsRow W.heap.size 9 1 pv uu.path.length (Strs uu.path) ∧ Below W.heap.size W w' from by rw [e2]; exact hj _ (by simp only [List.length_append, List.length_cons, List.length_nil]; omega) (by rw [read_pad]; exact hR.symm))
    obtain ⟨cb, hcb⟩ := ex_ (bs c)
    have HCL := h_ (show ∀ W, Calls Tryz.prog 18 #[.string s] W fun e w' => e = .returned (.string cb) ∧ Below W.heap.size W w' from fun W => by have := clean_any (ls s) W (by omega); rw [bs_ls, <- hc] at this; rw [hcb]; exact this)
    have HSP := h_ (show ∀ W, Below w.heap.size w W -> Calls Tryz.prog 17 #[.string cb] W fun e w' => e = .returned (.agg (pCells P)) ∧ Below W.heap.size W w' from fun W hW => by rw [hcb, hP]; exact split_any c W (by omega) (hE.below hW))
    obtain ⟨M, hM⟩ := ex_ (cb.size)
    have hMz : cb.size = M := hM.symm
    have hMc : M = c.length := by rw [hM, hcb, bs_size]
    have hM5 : M <= 500 := by omega
    obtain ⟨k, hk⟩ : ∃ k : Nat, k = min at0.toNat M := ⟨_, rfl⟩
    have hkM : k <= M := by omega
    have hmin : min at0 (M : Int) = (k : Int) := by omega
    obtain ⟨y1, hy1⟩ := ex_ (bs (c.take k))
    obtain ⟨y2, hy2⟩ := ex_ (bs (c.drop k))
    have hex1 : cb.extract 0 k = y1 := by rw [hcb, hy1, bs_extract]; simp
    have hex2 : cb.extract k M = y2 := by rw [hcb, hy2, bs_extract, hMc, List.take_of_length_le (by rw [List.length_drop]; omega)]
    obtain ⟨z1, hz1⟩ : ∃ z1, y1 ++ (⟨#[9, 13, 10]⟩ : ByteArray) = z1 := ⟨_, rfl⟩
    obtain ⟨x3, hx3⟩ : ∃ x3, z1 ++ y2 = x3 := ⟨_, rfl⟩
    have hy1z : y1.size <= 1000 := by rw [hy1, bs_size, List.length_take]; omega
    have hy2z : y2.size <= 1000 := by rw [hy2, bs_size, List.length_drop]; omega
    have hz1z : z1.size <= 2000 := by rw [<- hz1, ByteArray.size_append]; show y1.size + 3 <= 2000; omega
    have hno1 : ¬ 9223372036854775807 < y1.size + 3 := by omega
    have hno2 : ¬ 9223372036854775807 < z1.size + y2.size := by omega
    have e3 : x3 = bs (c.take k ++ [9, 13, 10] ++ c.drop k) := by rw [<- hx3, <- hz1, hy1, hy2, <- bs_app, <- bs_app]; rfl
    have J3 := h_ (show ∀ bv (W : World), Below w.heap.size w W -> Sl W.heap.size W bv (b.path.map S) -> Calls Tryz.prog 16 #[.agg (uCells bv b), .string x3] W fun e w' => ∃ pv, e = .returned (.tuple #[.agg (uCells pv uu), .bool q]) ∧ w'.ownsRow W.heap.size 9 1 pv uu.path.length (Strs uu.path) ∧ Below W.heap.size W w' from by rw [e3]; exact hj _ (by simp only [List.length_append, List.length_cons, List.length_nil, List.length_take, List.length_drop]; omega) (by rw [hc, read_mid]; exact hR.symm))
    obtain ⟨sb, hsb⟩ := ex_ (bs P.sch)
    obtain ⟨N, hNl⟩ := ex_ (sb.size)
    have hNz : sb.size = N := hNl.symm
    have hNs : N = P.sch.length := by rw [hNl, hsb, bs_size]
    have HNM := h_ (show P.hasS = true -> N <= M from fun h => by rw [hP] at h; have := sch_le h; rw [<- hP] at this; omega)
    obtain ⟨ub0, hub0⟩ := ex_ (bs (P.sch.map upB))
    have hubz : ub0.size = N := by rw [hub0, bs_size, List.length_map, hNs]
    obtain ⟨y4, hy4⟩ := ex_ (bs (c.drop N))
    have hex4 : cb.extract N M = y4 := by rw [hcb, hy4, bs_extract, hMc, List.take_of_length_le (by rw [List.length_drop]; omega)]
    have hy4z : y4.size <= 1000 := by rw [hy4, bs_size, List.length_drop]; omega
    obtain ⟨x4, hx4⟩ : ∃ x4, ub0 ++ y4 = x4 := ⟨_, rfl⟩
    have J4 := h_ (show P.hasS = true -> ∀ bv (W : World), Below w.heap.size w W -> Sl W.heap.size W bv (b.path.map S) -> Calls Tryz.prog 16 #[.agg (uCells bv b), .string x4] W fun e w' => ∃ pv, e = .returned (.tuple #[.agg (uCells pv uu), .bool q]) ∧ w'.ownsRow W.heap.size 9 1 pv uu.path.length (Strs uu.path) ∧ Below W.heap.size W w' from fun hS => by
     have hS' : (splitF (cleanF (ls s))).hasS = true := by rw [<- hc, <- hP]; exact hS
     have hu := up_of hS'
     have hr := read_up (b := b) hS'
     rw [hu, <- hc, <- hP, List.length_map, <- hNs, <- hR] at hr
     have e4 : x4 = bs (P.sch.map upB ++ c.drop N) := by rw [<- hx4, hub0, hy4, <- bs_app]
     rw [e4]
     exact hj _ (by rw [List.length_append, List.length_map, List.length_drop]; have := HNM.out hS; omega) hr)
    have SB := h_ (show sb = bs P.sch ∧ N = P.sch.length ∧ ub0 = bs (P.sch.map upB) from ⟨hsb, hNs, hub0⟩)
    have U8 := h_ BK.six
    clear hb hE hN ht5 hs5 htl hsl BK hR huu hq hj hc hP hcl hM hMc hcb e2 e3 hk hNl hNs hsb hub0 hy1 hy2 hy4 has ha0
    go_enter Tryz.func3, Tryz.ntmps3
    go_upto_region 6 with (first
     | (go_at_call 14; refine HSM.out.mono ?_; rintro e w1 ⟨rfl, hb1⟩; have HB1 := h_ hb1; clear hb1)
     | (go_at_call 15; refine (HBA.out _ HB1.out).mono ?_; rintro e w2 ⟨bv, rfl, oo, hb⟩; have HC2 := h_ hb; have OC2 := h_ (own_base oo HB1.out.size); clear hb oo)
     | (refine alloc_to rfl 30 rfl _ _ (allUrl _) ?_)
     | (refine storeUrl rfl (.tmp 8) (.tmp 29) rfl bv b B8.out (own_one OC2.out) rfl rfl rfl ?_; intro w3 hh hb; have Q3 := h_ (show DU w w2.heap.size bv b w3 from ⟨hh, Sl.of_own (own_ts (own_below' OC2.out hb)), stp HB1.out (stp HC2.out hb)⟩); clear hb hh)
     | (refine loadUrl (by rfl) (.tmp 8) rfl _ bv b B8.out rfl Q3.out.c ?_)
     | (go_at_call 16; refine (J0.out bv _ Q3.out.b Q3.out.s).mono ?_; rintro e w5 ⟨p1, rfl, oo, hb⟩; have Q5 := h_ (Q3.out.below hb); have OC := h_ oo; clear hb oo)
     | (refine storeUrl rfl (.tmp 10) (.tmp 53) rfl p1 uu KU.out.six (own_one OC.out) rfl rfl rfl ?_; intro w6 hh hb; have Q6 := h_ (Q5.out.below hb); have U6 := h_ (show DU w w5.heap.size p1 uu w6 from ⟨hh, Sl.of_own (own_ts (own_below' OC.out hb)), Q5.out.b.trans (hb.mono Q5.out.b.size)⟩); have O6 := h_ (own_one OC.out); clear hh hb)
     | fail)
    obtain ⟨g8, hg8⟩ := ex_ (w2.heap.size)
    obtain ⟨g10, hg10⟩ := ex_ (w5.heap.size)
    rw [<- hg8] at Q6 ⊢
    rw [<- hg10] at U6 ⊢
    clear hg8 hg10 HB1 HC2 OC2 Q3 Q5 OC HSM HBA
    go_upto_region 7 with (first
     | (refine loadUrl (by rfl) (.tmp 8) rfl _ bv b B8.out rfl Q6.out.c ?_)
     | (go_at_call 16; refine (J1.out bv _ Q6.out.b Q6.out.s).mono ?_; rintro e w7 ⟨p2, rfl, oo, hb⟩; have Q7 := h_ (Q6.out.below hb); have U7 := h_ (U6.out.below hb); have OC := h_ oo; clear hb oo)
     | (refine alloc_to rfl 30 rfl _ _ (allUrl _) ?_)
     | (refine storeUrl rfl (.tmp 12) (.tmp 61) rfl p2 uu KU.out.six (own_one OC.out) rfl rfl rfl ?_; intro w8 hh hb; have Q8 := h_ (Q7.out.below hb); have U8' := h_ (U7.out.below hb); have V8 := h_ (show DU w w7.heap.size p2 uu w8 from ⟨hh, Sl.of_own (own_ts (own_below' OC.out hb)), Q7.out.b.trans (hb.mono Q7.out.b.size)⟩); clear hh hb)
     | fail)
    obtain ⟨g12, hg12⟩ := ex_ (w7.heap.size)
    rw [<- hg12] at V8 ⊢
    clear hg12 Q6 U6 Q7 U7 OC
    go_upto_region 8 with (first
     | (go_at_call 18; refine (HCL.out _).mono ?_; rintro e w9 ⟨rfl, hb⟩; have Q9 := h_ (Q8.out.below hb); have U9 := h_ (U8'.out.below hb); have V9 := h_ (V8.out.below hb); clear hb)
     | (go_at_call 17; refine (HSP.out _ Q9.out.b).mono ?_; rintro e w10 ⟨rfl, hb⟩; have Q10 := h_ (Q9.out.below hb); have U10 := h_ (U9.out.below hb); have V10 := h_ (V9.out.below hb); clear hb)
     | (refine alloc_to rfl 35 rfl _ _ (allP _) ?_)
     | (refine storeC rfl 35 (.tmp 14) (.tmp 65) rfl (pCells P) (pCells P0) p_info rfl (all_oneCell_toArray p_one) rfl rfl rfl ?_; intro w11 hh hb; have P11 := h_ hh; have Q11 := h_ (Q10.out.below hb); have U11 := h_ (U10.out.below hb); have V11 := h_ (V10.out.below hb); clear hh hb)
     | fail)
    obtain ⟨g14, hg14⟩ := ex_ (w10.heap.size)
    rw [<- hg14] at P11 ⊢
    clear hg14 Q8 Q9 Q10 U8' U9 U10 V8 V9 V10
    go_upto_region 9 with (first
     | (refine loadUrl (by rfl) (.tmp 10) rfl _ p1 uu KU.out.six rfl U11.out.c ?_)
     | (refine alloc_to rfl 30 rfl _ _ (allUrl _) ?_)
     | (refine storeUrl rfl (.tmp 15) (.tmp 66) rfl p1 uu KU.out.six O6.out rfl rfl rfl ?_; intro w12 hh hb; have Q12 := h_ (Q11.out.db hb); have U12 := h_ (U11.out.db hb); have V12 := h_ (V11.out.db hb); have P12 := h_ (P11.out.keep hb); have T12 := h_ (OB.of hh Q11.out.b.size Q12.out.b); have L12 := h_ (show g8 ≠ w11.heap.size ∧ g10 ≠ w11.heap.size ∧ g12 ≠ w11.heap.size from ⟨Nat.ne_of_lt Q11.out.c.lt, Nat.ne_of_lt U11.out.c.lt, Nat.ne_of_lt V11.out.c.lt⟩); clear hh hb)
     | fail)
    obtain ⟨g15, hg15⟩ := ex_ (w11.heap.size)
    rw [<- hg15] at Q12 U12 V12 T12 L12 ⊢
    clear hg15 Q11 U11 V11 P11
    cases hS : P.hasS with
    | false =>
     have c14 := P12.out.cell_is (j := 0) (v := .bool P.hasS) rfl
     rw [hS] at c14
     obtain ⟨w19, hw19⟩ := ex_ (w12)
     rw [<- hw19] at Q12 U12 V12 T12 c14 ⊢
     have Q19 := h_ Q12.out; have U19 := h_ U12.out; have V19 := h_ V12.out; have T19 := h_ T12.out.cb
     have S19 := h_ U12.out.sl
     obtain ⟨p3, hp3⟩ := ex_ (p1)
     rw [<- hp3] at T19 S19
     clear hw19 hp3 Q12 U12 V12 T12 P12 J4 HNM
     go_upto_region 22 with (first
      | (go_at_call 18; refine (HCL.out _).mono ?_; rintro e w20 ⟨rfl, hb⟩; have Q20 := h_ (Q19.out.below hb); have U20 := h_ (U19.out.below hb); have V20 := h_ (V19.out.below hb); have T20 := h_ (T19.out.keep hb); have S20 := h_ ((S19.out.below hb).more hb.size); clear hb)
      | fail)
     clear Q19 U19 V19 T19 S19
     refine wp_region_held_drew (S := fun W => CB W g8 30 (uCells bv b)) (by kernel_rfl) (by with_reducible first | exact (Q20.out.c.keep (bz_drew (bz_refl _))) | exact C23.out | exact C22.out | exact C21.out) (fun hHeld => ?_)
     refine tk 0 (v := ?_) rfl (by kernel_rfl) (by kernel_rfl) (by kernel_rfl) (fun _ _ _ h => h) (by rfl) (by assumption) (fun wS hSw => ?_) ?_
     rotate_left
     ·(try dsimp only at hSw)
      refine loadUrl_exec (.tmp 8) ?_ g8 bv b B8.out ?_ hSw
      ·rfl
      ·rfl
     try simp only [Act.put, List.setIfInBounds_toArray, List.set_cons_zero, List.set_cons_succ]
     refine tk 1 (v := ?_) rfl (by kernel_rfl) (by kernel_rfl) (by kernel_rfl) (fun _ _ _ h => h) (by rfl) (by assumption) (fun wS hSw => ?_) ?_
     rotate_left
     ·(try dsimp only at hSw); go_simp; first | done | with_reducible rfl
     try simp only [Act.put, List.setIfInBounds_toArray, List.set_cons_zero, List.set_cons_succ]
     refine tk 2 (v := ?_) rfl (by kernel_rfl) (by kernel_rfl) (by kernel_rfl) (fun _ _ _ h => h) (by rfl) (by assumption) (fun wS hSw => ?_) ?_
     rotate_left
     ·(try dsimp only at hSw); go_simp; first | done | with_reducible rfl
     try simp only [Act.put, List.setIfInBounds_toArray, List.set_cons_zero, List.set_cons_succ]
     refine tk 3 (v := ?_) rfl (by kernel_rfl) (by kernel_rfl) (by kernel_rfl) (fun _ _ _ h => h) (by rfl) (by assumption) (fun wS hSw => ?_) ?_
     rotate_left
     ·(try dsimp only at hSw); go_simp; first | done | with_reducible rfl
     try simp only [Act.put, List.setIfInBounds_toArray, List.set_cons_zero, List.set_cons_succ]
     refine tk 4 (v := ?_) rfl (by kernel_rfl) (by kernel_rfl) (by kernel_rfl) (fun _ _ _ h => h) (by rfl) (by assumption) (fun wS hSw => ?_) ?_
     rotate_left
     ·(try dsimp only at hSw); go_simp; first | done | with_reducible rfl
     try simp only [Act.put, List.setIfInBounds_toArray, List.set_cons_zero, List.set_cons_succ]
     refine tk 5 (v := ?_) rfl (by kernel_rfl) (by kernel_rfl) (by kernel_rfl) (fun _ _ _ h => h) (by rfl) (by assumption) (fun wS hSw => ?_) ?_
     rotate_left
     ·(try dsimp only at hSw); go_simp; first | done | with_reducible rfl
     try simp only [Act.put, List.setIfInBounds_toArray, List.set_cons_zero, List.set_cons_succ]
     refine tk 6 (v := ?_) rfl (by kernel_rfl) (by kernel_rfl) (by kernel_rfl) (fun _ _ _ h => h) (by rfl) (by assumption) (fun wS hSw => ?_) ?_
     rotate_left
     ·(try dsimp only at hSw); go_simp; first | done | with_reducible rfl
     try simp only [Act.put, List.setIfInBounds_toArray, List.set_cons_zero, List.set_cons_succ]
     refine tk 7 (v := ?_) rfl (by kernel_rfl) (by kernel_rfl) (by kernel_rfl) (fun _ _ _ h => h) (by rfl) (by assumption) (fun wS hSw => ?_) ?_
     rotate_left
     ·(try dsimp only at hSw); go_simp; first | done | with_reducible rfl
     try simp only [Act.put, List.setIfInBounds_toArray, List.set_cons_zero, List.set_cons_succ]
     refine tk 8 (v := ?_) rfl (by kernel_rfl) (by kernel_rfl) (by kernel_rfl) (fun _ _ _ h => h) (by rfl) (by assumption) (fun wS hSw => ?_) ?_
     rotate_left
     ·(try dsimp only at hSw); go_simp; first | done | with_reducible rfl
     try simp only [Act.put, List.setIfInBounds_toArray, List.set_cons_zero, List.set_cons_succ]
     refine rn2 9 13 (by kernel_rfl) rfl (by rfl) ?_ rfl (by rfl) ?_
     ·intro K hK
      go_simp
      refine (J3.out bv _ (Q20.out.b.trans ((bz_drew (bz_refl _)).mono Q20.out.b.size)) (Q20.out.below (bz_drew (bz_refl _))).sl).mono ?_
      rintro e w21 ⟨p5, rfl, oo, hb⟩
      have hb' : Below w20.heap.size w20 w21 := (bz_drew (bz_refl _)).trans hb
      have Q21 := h_ (Q20.out.below hb'); have U21 := h_ (U20.out.below hb'); have V21 := h_ (V20.out.below hb'); have T21 := h_ (T20.out.keep hb'); have S21 := h_ ((S20.out.below hb').more hb'.size)
      have O21 := h_ oo; have C21 := h_ Q21.out.c
      clear hb oo hb'
      refine hK.out _ _ ?_ (fun hHeld => ?_)
      ·with_reducible first | exact (Q20.out.c.keep (bz_drew (bz_refl _))) | exact C23.out | exact C22.out | exact C21.out
      clear hK K
      try simp only [Act.put, List.setIfInBounds_toArray, List.set_cons_zero, List.set_cons_succ]
      refine tk 10 (v := ?_) rfl (by kernel_rfl) (by kernel_rfl) (by kernel_rfl) (fun _ _ _ h => h) (by rfl) (by assumption) (fun wS hSw => ?_) ?_
      rotate_left
      ·(try dsimp only at hSw); go_simp; first | done | with_reducible rfl
      try simp only [Act.put, List.setIfInBounds_toArray, List.set_cons_zero, List.set_cons_succ]
      refine tk 11 (v := ?_) rfl (by kernel_rfl) (by kernel_rfl) (by kernel_rfl) (fun _ _ _ h => h) (by rfl) (by assumption) (fun wS hSw => ?_) ?_
      rotate_left
      ·(try dsimp only at hSw); go_simp; first | done | with_reducible rfl
      try simp only [Act.put, List.setIfInBounds_toArray, List.set_cons_zero, List.set_cons_succ]
      refine tk 12 (v := ?_) rfl (by kernel_rfl) (by kernel_rfl) (by kernel_rfl) (fun _ _ _ h => h) (by rfl) (by assumption) (fun wS hSw => ?_) ?_
      rotate_left
      ·(try dsimp only at hSw); go_simp; first | done | with_reducible rfl
      try simp only [Act.put, List.setIfInBounds_toArray, List.set_cons_zero, List.set_cons_succ]
      refine rn 13 (by kernel_rfl) rfl (by rfl) (fun K hK => ?_)
      refine allocU_wp rfl ?_
      intro w22 i22 hb
      have Q22 := h_ (Q21.out.below hb); have U22 := h_ (U21.out.below hb); have V22 := h_ (V21.out.below hb); have T22 := h_ (T21.out.keep hb); have S22 := h_ ((S21.out.below hb).more hb.size)
      have O22 := h_ (own_below' O21.out hb); have C22 := h_ Q22.out.c
      have X22 := h_ (show OB w21 w21.heap.size 30 (uCells nilV U0) w22 from OB.of i22 (Nat.le_refl _) hb)
      clear i22 hb
      refine hK.out _ _ ?_ (fun hHeld => ?_)
      ·with_reducible first | exact (Q20.out.c.keep (bz_drew (bz_refl _))) | exact C23.out | exact C22.out | exact C21.out
      clear hK K
      try simp only [Act.put, List.setIfInBounds_toArray, List.set_cons_zero, List.set_cons_succ]
      refine rn 14 (by kernel_rfl) rfl (by rfl) (fun K hK => ?_)
      refine putU_wp (.tmp 23) (.tmp 127) rfl w21 w21.heap.size X22.out rfl p5 uu KU.out.six (own_one O22.out) rfl rfl ?_
      intro w23 i23 t23
      have hb : Below w21.heap.size w21 w23 := i23.bel
      have Q23 := h_ (Q21.out.below hb); have U23 := h_ (U21.out.below hb); have V23 := h_ (V21.out.below hb); have T23 := h_ (T21.out.keep hb); have S23 := h_ ((S21.out.below hb).more hb.size)
      have X23 := h_ i23.cb; have Y23 := h_ (Sl.of_own (own_ts (own_below' O21.out hb))); have C23 := h_ Q23.out.c
      clear hb i23 t23
      refine hK.out _ _ ?_ (fun hHeld => ?_)
      ·with_reducible first | exact (Q20.out.c.keep (bz_drew (bz_refl _))) | exact C23.out | exact C22.out | exact C21.out
      clear hK K
      try simp only [Act.put]
      refine tk 15 (v := ?_) rfl (by kernel_rfl) (by kernel_rfl) (by kernel_rfl) (fun _ _ _ h => h) (by rfl) (by assumption) (fun wS hSw => ?_) ?_
      rotate_left
      ·(try dsimp only at hSw); go_simp; first | done | with_reducible rfl
      try simp only [Act.put, List.setIfInBounds_toArray, List.set_cons_zero, List.set_cons_succ]
      refine wpAnyH_done (by kernel_rfl) ?_ _
      cases q
      all_goals
       go_wp2_with (first
        | (refine loadUrl (by rfl) (.tmp 10) rfl _ p1 uu KU.out.six rfl U23.out.c ?_)
        | (refine loadUrl (by rfl) (.tmp 12) rfl _ p2 uu KU.out.six rfl V23.out.c ?_)
        | (go_at_call 19; with_reducible refine (self_any uu p1 p2 _ KU.out U23.out.sl V23.out.sl).mono ?_; rintro e w24 ⟨rfl, hb⟩; have U24 := h_ (U23.out.below hb); have T24 := h_ (T23.out.keep hb); have S24 := h_ ((S23.out.below hb).more hb.size); have X24 := h_ (X23.out.keep hb); have Y24 := h_ ((Y23.out.below hb).more hb.size); clear hb)
        | (refine loadUrl (by rfl) (.tmp 10) rfl _ p1 uu KU.out.six rfl U24.out.c ?_)
        | (refine loadUrl (by rfl) (.tmp 15) rfl _ p3 uu KU.out.six rfl T24.out ?_)
        | (go_at_call 19; with_reducible refine (self_any uu p1 p3 _ KU.out U24.out.sl S24.out).mono ?_; rintro e w25 ⟨rfl, hb⟩; have U25 := h_ (U24.out.below hb); have X25 := h_ (X24.out.keep hb); have Y25 := h_ ((Y24.out.below hb).more hb.size); clear hb)
        | (refine loadUrl (by rfl) (.tmp 10) rfl _ p1 uu KU.out.six rfl U25.out.c ?_)
        | (refine loadUrl (by rfl) (.tmp 23) rfl _ p5 uu KU.out.six rfl X25.out ?_)
        | (go_at_call 19; with_reducible refine (self_any uu p1 p5 _ KU.out U25.out.sl Y25.out).mono ?_; rintro e w26 ⟨rfl, hb⟩; have U26 := h_ (U25.out.below hb); clear hb)
        | fail)
       go_ret
       exact ⟨ret1_bool (by simp), U26.out.b⟩
     ·intro K hK
      refine allocU_wp rfl ?_
      intro w21 i21 hb
      have hb' : Below w20.heap.size w20 w21 := (bz_drew (bz_refl _)).trans hb
      have Q21 := h_ (Q20.out.below hb'); have U21 := h_ (U20.out.below hb'); have V21 := h_ (V20.out.below hb'); have T21 := h_ (T20.out.keep hb'); have S21 := h_ ((S20.out.below hb').more hb'.size)
      have C21 := h_ Q21.out.c
      have X21 := h_ (show OB w20.drew w20.drew.heap.size 30 (uCells nilV U0) w21 from OB.of i21 (Nat.le_refl _) hb)
      clear i21 hb hb'
      refine hK.out _ _ ?_ (fun hHeld => ?_)
      ·with_reducible first | exact (Q20.out.c.keep (bz_drew (bz_refl _))) | exact C23.out | exact C22.out | exact C21.out
      clear hK K
      try simp only [Act.put, List.setIfInBounds_toArray, List.set_cons_zero, List.set_cons_succ]
      refine rn 9 (by kernel_rfl) rfl (by rfl) (fun K hK => ?_)
      go_simp
      refine (J3.out bv _ Q21.out.b Q21.out.sl).mono ?_
      rintro e w22 ⟨p5, rfl, oo, hb⟩
      have Q22 := h_ (Q21.out.below hb); have U22 := h_ (U21.out.below hb); have V22 := h_ (V21.out.below hb); have T22 := h_ (T21.out.keep hb); have S22 := h_ ((S21.out.below hb).more hb.size)
      have O22 := h_ (own_base oo (show w20.drew.heap.size + 1 <= _ from X21.out.lt)); have C22 := h_ Q22.out.c
      have X22 := h_ (X21.out.below hb)
      clear hb oo
      refine hK.out _ _ ?_ (fun hHeld => ?_)
      ·with_reducible first | exact (Q20.out.c.keep (bz_drew (bz_refl _))) | exact C23.out | exact C22.out | exact C21.out
      clear hK K
      try simp only [Act.put, List.setIfInBounds_toArray, List.set_cons_zero, List.set_cons_succ]
      refine tk 10 (v := ?_) rfl (by kernel_rfl) (by kernel_rfl) (by kernel_rfl) (fun _ _ _ h => h) (by rfl) (by assumption) (fun wS hSw => ?_) ?_
      rotate_left
      ·(try dsimp only at hSw); go_simp; first | done | with_reducible rfl
      try simp only [Act.put, List.setIfInBounds_toArray, List.set_cons_zero, List.set_cons_succ]
      refine tk 11 (v := ?_) rfl (by kernel_rfl) (by kernel_rfl) (by kernel_rfl) (fun _ _ _ h => h) (by rfl) (by assumption) (fun wS hSw => ?_) ?_
      rotate_left
      ·(try dsimp only at hSw); go_simp; first | done | with_reducible rfl
      try simp only [Act.put, List.setIfInBounds_toArray, List.set_cons_zero, List.set_cons_succ]
      refine tk 12 (v := ?_) rfl (by kernel_rfl) (by kernel_rfl) (by kernel_rfl) (fun _ _ _ h => h) (by rfl) (by assumption) (fun wS hSw => ?_) ?_
      rotate_left
      ·(try dsimp only at hSw); go_simp; first | done | with_reducible rfl
      try simp only [Act.put, List.setIfInBounds_toArray, List.set_cons_zero, List.set_cons_succ]
      refine rn 14 (by kernel_rfl) rfl (by rfl) (fun K hK => ?_)
      refine putU_wp (.tmp 23) (.tmp 127) rfl w20.drew w20.drew.heap.size X22.out rfl p5 uu KU.out.six (own_one O22.out) rfl rfl ?_
      intro w23 i23 t23
      have hb : Below w20.heap.size w20 w23 := (bz_drew (bz_refl _)).trans i23.bel
      have Q23 := h_ (Q20.out.below hb); have U23 := h_ (U20.out.below hb); have V23 := h_ (V20.out.below hb); have T23 := h_ (T20.out.keep hb); have S23 := h_ ((S20.out.below hb).more hb.size)
      have X23 := h_ i23.cb; have Y23 := h_ (Sl.of_own (own_ts (t23.row O22.out (Nat.lt_succ_self _)))); have C23 := h_ Q23.out.c
      clear hb i23 t23
      refine hK.out _ _ ?_ (fun hHeld => ?_)
      ·with_reducible first | exact (Q20.out.c.keep (bz_drew (bz_refl _))) | exact C23.out | exact C22.out | exact C21.out
      clear hK K
      try simp only [Act.put]
      refine tk 15 (v := ?_) rfl (by kernel_rfl) (by kernel_rfl) (by kernel_rfl) (fun _ _ _ h => h) (by rfl) (by assumption) (fun wS hSw => ?_) ?_
      rotate_left
      ·(try dsimp only at hSw); go_simp; first | done | with_reducible rfl
      try simp only [Act.put, List.setIfInBounds_toArray, List.set_cons_zero, List.set_cons_succ]
      refine wpAnyH_done (by kernel_rfl) ?_ _
      cases q
      all_goals
       go_wp2_with (first
        | (refine loadUrl (by rfl) (.tmp 10) rfl _ p1 uu KU.out.six rfl U23.out.c ?_)
        | (refine loadUrl (by rfl) (.tmp 12) rfl _ p2 uu KU.out.six rfl V23.out.c ?_)
        | (go_at_call 19; with_reducible refine (self_any uu p1 p2 _ KU.out U23.out.sl V23.out.sl).mono ?_; rintro e w24 ⟨rfl, hb⟩; have U24 := h_ (U23.out.below hb); have T24 := h_ (T23.out.keep hb); have S24 := h_ ((S23.out.below hb).more hb.size); have X24 := h_ (X23.out.keep hb); have Y24 := h_ ((Y23.out.below hb).more hb.size); clear hb)
        | (refine loadUrl (by rfl) (.tmp 10) rfl _ p1 uu KU.out.six rfl U24.out.c ?_)
        | (refine loadUrl (by rfl) (.tmp 15) rfl _ p3 uu KU.out.six rfl T24.out ?_)
        | (go_at_call 19; with_reducible refine (self_any uu p1 p3 _ KU.out U24.out.sl S24.out).mono ?_; rintro e w25 ⟨rfl, hb⟩; have U25 := h_ (U24.out.below hb); have X25 := h_ (X24.out.keep hb); have Y25 := h_ ((Y24.out.below hb).more hb.size); clear hb)
        | (refine loadUrl (by rfl) (.tmp 10) rfl _ p1 uu KU.out.six rfl U25.out.c ?_)
        | (refine loadUrl (by rfl) (.tmp 23) rfl _ p5 uu KU.out.six rfl X25.out ?_)
        | (go_at_call 19; with_reducible refine (self_any uu p1 p5 _ KU.out U25.out.sl Y25.out).mono ?_; rintro e w26 ⟨rfl, hb⟩; have U26 := h_ (U25.out.below hb); clear hb)
        | fail)
       go_ret
       exact ⟨ret1_bool (by simp), U26.out.b⟩
    | true =>
     have J5 := h_ (J4.out hS)
     have hNM := HNM.out hS
     clear J4 HNM
     have hmin4 : min (M : Int) (N : Int) = (N : Int) := by omega
     have hno3 : ¬ 9223372036854775807 < ub0.size + y4.size := by omega
     have hno4 : ¬ 9223372036854775807 < N + y4.size := by omega
     have c14 := P12.out.cell_is (j := 0) (v := .bool P.hasS) rfl
     rw [hS] at c14
     go_wp2_with fail
     clear c14
     go_loopw [17, 18, 19] (fun uv iv _ wr => ∃ k : Nat, k <= N ∧ iv = .int .i64 k ∧ uv = .string (bs ((P.sch.take k).map upB)) ∧ Hid (Below w12.heap.size w12 wr)) (fun _ i _ _ => N - (intOf i).toNat)
     case atStart => exact ⟨0, Nat.zero_le _, rfl, rfl, h_ (Below.refl _ _)⟩
     case round =>
      obtain ⟨j, hj, rfl, rfl, HBW⟩ := hrel
      have c14 := (P12.out.keep HBW.out).cell_is (j := 1) (v := S P.sch) rfl
      rw [show S P.sch = .string sb from by rw [SB.out.1]] at c14
      obtain ⟨uk, huk⟩ := ex_ (bs ((P.sch.take j).map upB))
      by_cases hlt : j < N
      ·have hjl : j < P.sch.length := by have := SB.out.2.1; omega
       have hjs : j < sb.size := by omega
       have hx := str_at SB.out.1 hjs hjl
       have hst := upf_step hjl
       rw [<- huk] at hst ⊢
       have hukz : uk.size <= 1000 := by rw [huk, bs_size, List.length_map, List.length_take]; omega
       obtain ⟨u2, hu2⟩ := ex_ (bs ((P.sch.take (j + 1)).map upB))
       rw [<- hu2] at hst
       obtain ⟨yy, hyy⟩ := ex_ (bs [upB P.sch[j]])
       rw [<- hyy] at hst
       have hyz : yy.size = 1 := by rw [hyy]; rfl
       have hr := b2_range P.sch[j]
       obtain ⟨x, hxx⟩ := ex_ (P.sch[j])
       rw [<- hxx] at hx hyy hr
       obtain ⟨z, hz⟩ := ex_ (b2 x)
       rw [<- hz] at hx hr
       have HS2 := h_ hu2
       have hup : upB x = UInt8.ofNat (if 97 <= z ∧ z <= 122 then z - 32 else z).toNat := by
        unfold upB
        rw [<- hz]
        split
        ·rfl
        ·rw [hz]; exact (b2_back x).symm
       rw [hup] at hyy
       clear hu2 huk hxx hup hz
       by_cases h1 : 97 <= z
       ·by_cases h2 : z <= 122
        ·rw [if_pos ⟨h1, h2⟩] at hyy
         have hw : IntKind.u8.wrap (z - 32) = z - 32 := IntWalk.u8_in _ (by omega)
         have hcv := fun W => conv1 (P := Tryz.prog) Tryz.underlying38 Tryz.underlying5 Tryz.underlying9 (z - 32) (by omega) W
         rw [<- hyy] at hcv
         clear hyy
         go_wp2_with fail
         go_roundw
         case rel => exact ⟨j + 1, by omega, by go_num, by rw [<- HS2.out], h_ (HBW.out.alloc HBW.out.size _)⟩
         case measure => simp [intOf]; omega
        ·rw [if_neg (by omega)] at hyy
         have hcv := fun W => conv1 (P := Tryz.prog) Tryz.underlying38 Tryz.underlying5 Tryz.underlying9 z (by omega) W
         rw [<- hyy] at hcv
         clear hyy
         go_wp2_with fail
         go_roundw
         case rel => exact ⟨j + 1, by omega, by go_num, by rw [<- HS2.out], h_ (HBW.out.alloc HBW.out.size _)⟩
         case measure => simp [intOf]; omega
       ·rw [if_neg (by omega)] at hyy
        have hcv := fun W => conv1 (P := Tryz.prog) Tryz.underlying38 Tryz.underlying5 Tryz.underlying9 z (by omega) W
        rw [<- hyy] at hcv
        clear hyy
        go_wp2_with fail
        go_roundw
        case rel => exact ⟨j + 1, by omega, by go_num, by rw [<- HS2.out], h_ (HBW.out.alloc HBW.out.size _)⟩
        case measure => simp [intOf]; omega
      ·obtain rfl : j = N := by omega
       have hu : uk = ub0 := by rw [huk, SB.out.2.2, List.take_of_length_le (by have := SB.out.2.1; omega)]
       rw [<- huk, hu]
       clear huk hu uk
       have Q13 := h_ (Q12.out.below HBW.out); have U13 := h_ (U12.out.below HBW.out); have V13 := h_ (V12.out.below HBW.out); have T13 := h_ (T12.out.below HBW.out)
       clear Q12 U12 V12 T12 P12 HBW
       go_upto_region 19 with (first
        | (go_at_call 18; refine (HCL.out _).mono ?_; rintro e w14 ⟨rfl, hb⟩; have Q14 := h_ (Q13.out.below hb); have U14 := h_ (U13.out.below hb); have V14 := h_ (V13.out.below hb); have T14 := h_ (T13.out.below hb); clear hb)
        | fail)
       clear Q13 U13 V13 T13
       refine wp_region_held_drew (S := fun W => CB W g8 30 (uCells bv b)) (by kernel_rfl) (by with_reducible first | exact (Q14.out.c.keep (bz_drew (bz_refl _))) | exact C19.out | exact C18.out) (fun hHeld => ?_)
       refine tk 0 (v := ?_) rfl (by kernel_rfl) (by kernel_rfl) (by kernel_rfl) (fun _ _ _ h => h) (by rfl) (by assumption) (fun wS hSw => ?_) ?_
       rotate_left
       ·(try dsimp only at hSw)
        refine loadUrl_exec (.tmp 8) ?_ g8 bv b B8.out ?_ hSw
        ·rfl
        ·rfl
       try simp only [Act.put, List.setIfInBounds_toArray, List.set_cons_zero, List.set_cons_succ]
       refine tk 1 (v := ?_) rfl (by kernel_rfl) (by kernel_rfl) (by kernel_rfl) (fun _ _ _ h => h) (by rfl) (by assumption) (fun wS hSw => ?_) ?_
       rotate_left
       ·(try dsimp only at hSw); go_simp; first | done | with_reducible rfl
       try simp only [Act.put, List.setIfInBounds_toArray, List.set_cons_zero, List.set_cons_succ]
       refine tk 2 (v := ?_) rfl (by kernel_rfl) (by kernel_rfl) (by kernel_rfl) (fun _ _ _ h => h) (by rfl) (by assumption) (fun wS hSw => ?_) ?_
       rotate_left
       ·(try dsimp only at hSw); go_simp; first | done | with_reducible rfl
       try simp only [Act.put, List.setIfInBounds_toArray, List.set_cons_zero, List.set_cons_succ]
       refine tk 3 (v := ?_) rfl (by kernel_rfl) (by kernel_rfl) (by kernel_rfl) (fun _ _ _ h => h) (by rfl) (by assumption) (fun wS hSw => ?_) ?_
       rotate_left
       ·(try dsimp only at hSw); go_simp; first | done | with_reducible rfl
       try simp only [Act.put, List.setIfInBounds_toArray, List.set_cons_zero, List.set_cons_succ]
       refine tk 4 (v := ?_) rfl (by kernel_rfl) (by kernel_rfl) (by kernel_rfl) (fun _ _ _ h => h) (by rfl) (by assumption) (fun wS hSw => ?_) ?_
       rotate_left
       ·(try dsimp only at hSw); go_simp; first | done | with_reducible rfl
       try simp only [Act.put, List.setIfInBounds_toArray, List.set_cons_zero, List.set_cons_succ]
       refine tk 5 (v := ?_) rfl (by kernel_rfl) (by kernel_rfl) (by kernel_rfl) (fun _ _ _ h => h) (by rfl) (by assumption) (fun wS hSw => ?_) ?_
       rotate_left
       ·(try dsimp only at hSw); go_simp; first | done | with_reducible rfl
       try simp only [Act.put, List.setIfInBounds_toArray, List.set_cons_zero, List.set_cons_succ]
       refine tk 6 (v := ?_) rfl (by kernel_rfl) (by kernel_rfl) (by kernel_rfl) (fun _ _ _ h => h) (by rfl) (by assumption) (fun wS hSw => ?_) ?_
       rotate_left
       ·(try dsimp only at hSw); go_simp; first | done | with_reducible rfl
       try simp only [Act.put, List.setIfInBounds_toArray, List.set_cons_zero, List.set_cons_succ]
       refine tk 7 (v := ?_) rfl (by kernel_rfl) (by kernel_rfl) (by kernel_rfl) (fun _ _ _ h => h) (by rfl) (by assumption) (fun wS hSw => ?_) ?_
       rotate_left
       ·(try dsimp only at hSw); go_simp; first | done | with_reducible rfl
       try simp only [Act.put, List.setIfInBounds_toArray, List.set_cons_zero, List.set_cons_succ]
       refine tk 8 (v := ?_) rfl (by kernel_rfl) (by kernel_rfl) (by kernel_rfl) (fun _ _ _ h => h) (by rfl) (by assumption) (fun wS hSw => ?_) ?_
       rotate_left
       ·(try dsimp only at hSw); go_simp; first | done | with_reducible rfl
       try simp only [Act.put, List.setIfInBounds_toArray, List.set_cons_zero, List.set_cons_succ]
       refine tk 9 (v := ?_) rfl (by kernel_rfl) (by kernel_rfl) (by kernel_rfl) (fun _ _ _ h => h) (by rfl) (by assumption) (fun wS hSw => ?_) ?_
       rotate_left
       ·(try dsimp only at hSw); go_simp; first | done | with_reducible rfl
       try simp only [Act.put, List.setIfInBounds_toArray, List.set_cons_zero, List.set_cons_succ]
       refine rn 10 (by kernel_rfl) rfl (by rfl) (fun K hK => ?_)
       go_simp
       refine (J5.out bv _ (Q14.out.b.trans ((bz_drew (bz_refl _)).mono Q14.out.b.size)) (Q14.out.below (bz_drew (bz_refl _))).sl).mono ?_
       rintro e w18 ⟨p3, rfl, oo, hb⟩
       have hb' : Below w14.heap.size w14 w18 := (bz_drew (bz_refl _)).trans hb
       have Q18 := h_ (Q14.out.below hb'); have U18 := h_ (U14.out.below hb'); have V18 := h_ (V14.out.below hb'); have T18 := h_ (T14.out.below hb')
       have O18 := h_ (own_base oo (show g15 + 1 <= _ from T14.out.lt)); have C18 := h_ Q18.out.c
       clear hb oo hb'
       refine hK.out _ _ ?_ (fun hHeld => ?_)
       ·with_reducible first | exact (Q14.out.c.keep (bz_drew (bz_refl _))) | exact C19.out | exact C18.out
       clear hK K
       try simp only [Act.put, List.setIfInBounds_toArray, List.set_cons_zero, List.set_cons_succ]
       refine tk 11 (v := ?_) rfl (by kernel_rfl) (by kernel_rfl) (by kernel_rfl) (fun _ _ _ h => h) (by rfl) (by assumption) (fun wS hSw => ?_) ?_
       rotate_left
       ·(try dsimp only at hSw); go_simp; first | done | with_reducible rfl
       try simp only [Act.put, List.setIfInBounds_toArray, List.set_cons_zero, List.set_cons_succ]
       refine tk 12 (v := ?_) rfl (by kernel_rfl) (by kernel_rfl) (by kernel_rfl) (fun _ _ _ h => h) (by rfl) (by assumption) (fun wS hSw => ?_) ?_
       rotate_left
       ·(try dsimp only at hSw); go_simp; first | done | with_reducible rfl
       try simp only [Act.put, List.setIfInBounds_toArray, List.set_cons_zero, List.set_cons_succ]
       refine tk 13 (v := ?_) rfl (by kernel_rfl) (by kernel_rfl) (by kernel_rfl) (fun _ _ _ h => h) (by rfl) (by assumption) (fun wS hSw => ?_) ?_
       rotate_left
       ·(try dsimp only at hSw); go_simp; first | done | with_reducible rfl
       try simp only [Act.put, List.setIfInBounds_toArray, List.set_cons_zero, List.set_cons_succ]
       refine rn 14 (by kernel_rfl) rfl (by rfl) (fun K hK => ?_)
       refine putU_wp (.tmp 15) (.tmp 108) rfl w g15 T18.out KU.out.six p3 uu KU.out.six (own_one O18.out) rfl rfl ?_
       intro w19 i19 t19
       have Q19 := h_ (Q18.out.tn t19 L12.out.1 i19.bel); have U19 := h_ (U18.out.tn t19 L12.out.2.1 i19.bel); have V19 := h_ (V18.out.tn t19 L12.out.2.2 i19.bel); have T19 := h_ i19.cb
       have S19 := h_ (Sl.of_own (own_ts (t19.row O18.out (Nat.lt_succ_self _)))); have C19 := h_ Q19.out.c
       clear i19 t19
       refine hK.out _ _ ?_ (fun hHeld => ?_)
       ·with_reducible first | exact (Q14.out.c.keep (bz_drew (bz_refl _))) | exact C19.out | exact C18.out
       clear hK K
       try simp only [Act.put]
       refine tk 15 (v := ?_) rfl (by kernel_rfl) (by kernel_rfl) (by kernel_rfl) (fun _ _ _ h => h) (by rfl) (by assumption) (fun wS hSw => ?_) ?_
       rotate_left
       ·(try dsimp only at hSw); go_simp; first | done | with_reducible rfl
       try simp only [Act.put, List.setIfInBounds_toArray, List.set_cons_zero, List.set_cons_succ]
       refine wpAnyH_done (by kernel_rfl) ?_ _
       clear Q14 Q18 U14 U18 V14 V18 T14 T18 O18 C18 C19
       go_upto_region 22 with (first
        | (go_at_call 18; refine (HCL.out _).mono ?_; rintro e w20 ⟨rfl, hb⟩; have Q20 := h_ (Q19.out.below hb); have U20 := h_ (U19.out.below hb); have V20 := h_ (V19.out.below hb); have T20 := h_ (T19.out.keep hb); have S20 := h_ ((S19.out.below hb).more hb.size); clear hb)
        | fail)
       clear Q19 U19 V19 T19 S19
       refine wp_region_held_drew (S := fun W => CB W g8 30 (uCells bv b)) (by kernel_rfl) (by with_reducible first | exact (Q20.out.c.keep (bz_drew (bz_refl _))) | exact C23.out | exact C22.out | exact C21.out) (fun hHeld => ?_)
       refine tk 0 (v := ?_) rfl (by kernel_rfl) (by kernel_rfl) (by kernel_rfl) (fun _ _ _ h => h) (by rfl) (by assumption) (fun wS hSw => ?_) ?_
       rotate_left
       ·(try dsimp only at hSw)
        refine loadUrl_exec (.tmp 8) ?_ g8 bv b B8.out ?_ hSw
        ·rfl
        ·rfl
       try simp only [Act.put, List.setIfInBounds_toArray, List.set_cons_zero, List.set_cons_succ]
       refine tk 1 (v := ?_) rfl (by kernel_rfl) (by kernel_rfl) (by kernel_rfl) (fun _ _ _ h => h) (by rfl) (by assumption) (fun wS hSw => ?_) ?_
       rotate_left
       ·(try dsimp only at hSw); go_simp; first | done | with_reducible rfl
       try simp only [Act.put, List.setIfInBounds_toArray, List.set_cons_zero, List.set_cons_succ]
       refine tk 2 (v := ?_) rfl (by kernel_rfl) (by kernel_rfl) (by kernel_rfl) (fun _ _ _ h => h) (by rfl) (by assumption) (fun wS hSw => ?_) ?_
       rotate_left
       ·(try dsimp only at hSw); go_simp; first | done | with_reducible rfl
       try simp only [Act.put, List.setIfInBounds_toArray, List.set_cons_zero, List.set_cons_succ]
       refine tk 3 (v := ?_) rfl (by kernel_rfl) (by kernel_rfl) (by kernel_rfl) (fun _ _ _ h => h) (by rfl) (by assumption) (fun wS hSw => ?_) ?_
       rotate_left
       ·(try dsimp only at hSw); go_simp; first | done | with_reducible rfl
       try simp only [Act.put, List.setIfInBounds_toArray, List.set_cons_zero, List.set_cons_succ]
       refine tk 4 (v := ?_) rfl (by kernel_rfl) (by kernel_rfl) (by kernel_rfl) (fun _ _ _ h => h) (by rfl) (by assumption) (fun wS hSw => ?_) ?_
       rotate_left
       ·(try dsimp only at hSw); go_simp; first | done | with_reducible rfl
       try simp only [Act.put, List.setIfInBounds_toArray, List.set_cons_zero, List.set_cons_succ]
       refine tk 5 (v := ?_) rfl (by kernel_rfl) (by kernel_rfl) (by kernel_rfl) (fun _ _ _ h => h) (by rfl) (by assumption) (fun wS hSw => ?_) ?_
       rotate_left
       ·(try dsimp only at hSw); go_simp; first | done | with_reducible rfl
       try simp only [Act.put, List.setIfInBounds_toArray, List.set_cons_zero, List.set_cons_succ]
       refine tk 6 (v := ?_) rfl (by kernel_rfl) (by kernel_rfl) (by kernel_rfl) (fun _ _ _ h => h) (by rfl) (by assumption) (fun wS hSw => ?_) ?_
       rotate_left
       ·(try dsimp only at hSw); go_simp; first | done | with_reducible rfl
       try simp only [Act.put, List.setIfInBounds_toArray, List.set_cons_zero, List.set_cons_succ]
       refine tk 7 (v := ?_) rfl (by kernel_rfl) (by kernel_rfl) (by kernel_rfl) (fun _ _ _ h => h) (by rfl) (by assumption) (fun wS hSw => ?_) ?_
       rotate_left
       ·(try dsimp only at hSw); go_simp; first | done | with_reducible rfl
       try simp only [Act.put, List.setIfInBounds_toArray, List.set_cons_zero, List.set_cons_succ]
       refine tk 8 (v := ?_) rfl (by kernel_rfl) (by kernel_rfl) (by kernel_rfl) (fun _ _ _ h => h) (by rfl) (by assumption) (fun wS hSw => ?_) ?_
       rotate_left
       ·(try dsimp only at hSw); go_simp; first | done | with_reducible rfl
       try simp only [Act.put, List.setIfInBounds_toArray, List.set_cons_zero, List.set_cons_succ]
       refine rn2 9 13 (by kernel_rfl) rfl (by rfl) ?_ rfl (by rfl) ?_
       ·intro K hK
        go_simp
        refine (J3.out bv _ (Q20.out.b.trans ((bz_drew (bz_refl _)).mono Q20.out.b.size)) (Q20.out.below (bz_drew (bz_refl _))).sl).mono ?_
        rintro e w21 ⟨p5, rfl, oo, hb⟩
        have hb' : Below w20.heap.size w20 w21 := (bz_drew (bz_refl _)).trans hb
        have Q21 := h_ (Q20.out.below hb'); have U21 := h_ (U20.out.below hb'); have V21 := h_ (V20.out.below hb'); have T21 := h_ (T20.out.keep hb'); have S21 := h_ ((S20.out.below hb').more hb'.size)
        have O21 := h_ oo; have C21 := h_ Q21.out.c
        clear hb oo hb'
        refine hK.out _ _ ?_ (fun hHeld => ?_)
        ·with_reducible first | exact (Q20.out.c.keep (bz_drew (bz_refl _))) | exact C23.out | exact C22.out | exact C21.out
        clear hK K
        try simp only [Act.put, List.setIfInBounds_toArray, List.set_cons_zero, List.set_cons_succ]
        refine tk 10 (v := ?_) rfl (by kernel_rfl) (by kernel_rfl) (by kernel_rfl) (fun _ _ _ h => h) (by rfl) (by assumption) (fun wS hSw => ?_) ?_
        rotate_left
        ·(try dsimp only at hSw); go_simp; first | done | with_reducible rfl
        try simp only [Act.put, List.setIfInBounds_toArray, List.set_cons_zero, List.set_cons_succ]
        refine tk 11 (v := ?_) rfl (by kernel_rfl) (by kernel_rfl) (by kernel_rfl) (fun _ _ _ h => h) (by rfl) (by assumption) (fun wS hSw => ?_) ?_
        rotate_left
        ·(try dsimp only at hSw); go_simp; first | done | with_reducible rfl
        try simp only [Act.put, List.setIfInBounds_toArray, List.set_cons_zero, List.set_cons_succ]
        refine tk 12 (v := ?_) rfl (by kernel_rfl) (by kernel_rfl) (by kernel_rfl) (fun _ _ _ h => h) (by rfl) (by assumption) (fun wS hSw => ?_) ?_
        rotate_left
        ·(try dsimp only at hSw); go_simp; first | done | with_reducible rfl
        try simp only [Act.put, List.setIfInBounds_toArray, List.set_cons_zero, List.set_cons_succ]
        refine rn 13 (by kernel_rfl) rfl (by rfl) (fun K hK => ?_)
        refine allocU_wp rfl ?_
        intro w22 i22 hb
        have Q22 := h_ (Q21.out.below hb); have U22 := h_ (U21.out.below hb); have V22 := h_ (V21.out.below hb); have T22 := h_ (T21.out.keep hb); have S22 := h_ ((S21.out.below hb).more hb.size)
        have O22 := h_ (own_below' O21.out hb); have C22 := h_ Q22.out.c
        have X22 := h_ (show OB w21 w21.heap.size 30 (uCells nilV U0) w22 from OB.of i22 (Nat.le_refl _) hb)
        clear i22 hb
        refine hK.out _ _ ?_ (fun hHeld => ?_)
        ·with_reducible first | exact (Q20.out.c.keep (bz_drew (bz_refl _))) | exact C23.out | exact C22.out | exact C21.out
        clear hK K
        try simp only [Act.put, List.setIfInBounds_toArray, List.set_cons_zero, List.set_cons_succ]
        refine rn 14 (by kernel_rfl) rfl (by rfl) (fun K hK => ?_)
        refine putU_wp (.tmp 23) (.tmp 127) rfl w21 w21.heap.size X22.out rfl p5 uu KU.out.six (own_one O22.out) rfl rfl ?_
        intro w23 i23 t23
        have hb : Below w21.heap.size w21 w23 := i23.bel
        have Q23 := h_ (Q21.out.below hb); have U23 := h_ (U21.out.below hb); have V23 := h_ (V21.out.below hb); have T23 := h_ (T21.out.keep hb); have S23 := h_ ((S21.out.below hb).more hb.size)
        have X23 := h_ i23.cb; have Y23 := h_ (Sl.of_own (own_ts (own_below' O21.out hb))); have C23 := h_ Q23.out.c
        clear hb i23 t23
        refine hK.out _ _ ?_ (fun hHeld => ?_)
        ·with_reducible first | exact (Q20.out.c.keep (bz_drew (bz_refl _))) | exact C23.out | exact C22.out | exact C21.out
        clear hK K
        try simp only [Act.put]
        refine tk 15 (v := ?_) rfl (by kernel_rfl) (by kernel_rfl) (by kernel_rfl) (fun _ _ _ h => h) (by rfl) (by assumption) (fun wS hSw => ?_) ?_
        rotate_left
        ·(try dsimp only at hSw); go_simp; first | done | with_reducible rfl
        try simp only [Act.put, List.setIfInBounds_toArray, List.set_cons_zero, List.set_cons_succ]
        refine wpAnyH_done (by kernel_rfl) ?_ _
        cases q
        all_goals
         go_wp2_with (first
          | (refine loadUrl (by rfl) (.tmp 10) rfl _ p1 uu KU.out.six rfl U23.out.c ?_)
          | (refine loadUrl (by rfl) (.tmp 12) rfl _ p2 uu KU.out.six rfl V23.out.c ?_)
          | (go_at_call 19; with_reducible refine (self_any uu p1 p2 _ KU.out U23.out.sl V23.out.sl).mono ?_; rintro e w24 ⟨rfl, hb⟩; have U24 := h_ (U23.out.below hb); have T24 := h_ (T23.out.keep hb); have S24 := h_ ((S23.out.below hb).more hb.size); have X24 := h_ (X23.out.keep hb); have Y24 := h_ ((Y23.out.below hb).more hb.size); clear hb)
          | (refine loadUrl (by rfl) (.tmp 10) rfl _ p1 uu KU.out.six rfl U24.out.c ?_)
          | (refine loadUrl (by rfl) (.tmp 15) rfl _ p3 uu KU.out.six rfl T24.out ?_)
          | (go_at_call 19; with_reducible refine (self_any uu p1 p3 _ KU.out U24.out.sl S24.out).mono ?_; rintro e w25 ⟨rfl, hb⟩; have U25 := h_ (U24.out.below hb); have X25 := h_ (X24.out.keep hb); have Y25 := h_ ((Y24.out.below hb).more hb.size); clear hb)
          | (refine loadUrl (by rfl) (.tmp 10) rfl _ p1 uu KU.out.six rfl U25.out.c ?_)
          | (refine loadUrl (by rfl) (.tmp 23) rfl _ p5 uu KU.out.six rfl X25.out ?_)
          | (go_at_call 19; with_reducible refine (self_any uu p1 p5 _ KU.out U25.out.sl Y25.out).mono ?_; rintro e w26 ⟨rfl, hb⟩; have U26 := h_ (U25.out.below hb); clear hb)
          | fail)
         go_ret
         exact ⟨ret1_bool (by simp), U26.out.b⟩
       ·intro K hK
        refine allocU_wp rfl ?_
        intro w21 i21 hb
        have hb' : Below w20.heap.size w20 w21 := (bz_drew (bz_refl _)).trans hb
        have Q21 := h_ (Q20.out.below hb'); have U21 := h_ (U20.out.below hb'); have V21 := h_ (V20.out.below hb'); have T21 := h_ (T20.out.keep hb'); have S21 := h_ ((S20.out.below hb').more hb'.size)
        have C21 := h_ Q21.out.c
        have X21 := h_ (show OB w20.drew w20.drew.heap.size 30 (uCells nilV U0) w21 from OB.of i21 (Nat.le_refl _) hb)
        clear i21 hb hb'
        refine hK.out _ _ ?_ (fun hHeld => ?_)
        ·with_reducible first | exact (Q20.out.c.keep (bz_drew (bz_refl _))) | exact C23.out | exact C22.out | exact C21.out
        clear hK K
        try simp only [Act.put, List.setIfInBounds_toArray, List.set_cons_zero, List.set_cons_succ]
        refine rn 9 (by kernel_rfl) rfl (by rfl) (fun K hK => ?_)
        go_simp
        refine (J3.out bv _ Q21.out.b Q21.out.sl).mono ?_
        rintro e w22 ⟨p5, rfl, oo, hb⟩
        have Q22 := h_ (Q21.out.below hb); have U22 := h_ (U21.out.below hb); have V22 := h_ (V21.out.below hb); have T22 := h_ (T21.out.keep hb); have S22 := h_ ((S21.out.below hb).more hb.size)
        have O22 := h_ (own_base oo (show w20.drew.heap.size + 1 <= _ from X21.out.lt)); have C22 := h_ Q22.out.c
        have X22 := h_ (X21.out.below hb)
        clear hb oo
        refine hK.out _ _ ?_ (fun hHeld => ?_)
        ·with_reducible first | exact (Q20.out.c.keep (bz_drew (bz_refl _))) | exact C23.out | exact C22.out | exact C21.out
        clear hK K
        try simp only [Act.put, List.setIfInBounds_toArray, List.set_cons_zero, List.set_cons_succ]
        refine tk 10 (v := ?_) rfl (by kernel_rfl) (by kernel_rfl) (by kernel_rfl) (fun _ _ _ h => h) (by rfl) (by assumption) (fun wS hSw => ?_) ?_
        rotate_left
        ·(try dsimp only at hSw); go_simp; first | done | with_reducible rfl
        try simp only [Act.put, List.setIfInBounds_toArray, List.set_cons_zero, List.set_cons_succ]
        refine tk 11 (v := ?_) rfl (by kernel_rfl) (by kernel_rfl) (by kernel_rfl) (fun _ _ _ h => h) (by rfl) (by assumption) (fun wS hSw => ?_) ?_
        rotate_left
        ·(try dsimp only at hSw); go_simp; first | done | with_reducible rfl
        try simp only [Act.put, List.setIfInBounds_toArray, List.set_cons_zero, List.set_cons_succ]
        refine tk 12 (v := ?_) rfl (by kernel_rfl) (by kernel_rfl) (by kernel_rfl) (fun _ _ _ h => h) (by rfl) (by assumption) (fun wS hSw => ?_) ?_
        rotate_left
        ·(try dsimp only at hSw); go_simp; first | done | with_reducible rfl
        try simp only [Act.put, List.setIfInBounds_toArray, List.set_cons_zero, List.set_cons_succ]
        refine rn 14 (by kernel_rfl) rfl (by rfl) (fun K hK => ?_)
        refine putU_wp (.tmp 23) (.tmp 127) rfl w20.drew w20.drew.heap.size X22.out rfl p5 uu KU.out.six (own_one O22.out) rfl rfl ?_
        intro w23 i23 t23
        have hb : Below w20.heap.size w20 w23 := (bz_drew (bz_refl _)).trans i23.bel
        have Q23 := h_ (Q20.out.below hb); have U23 := h_ (U20.out.below hb); have V23 := h_ (V20.out.below hb); have T23 := h_ (T20.out.keep hb); have S23 := h_ ((S20.out.below hb).more hb.size)
        have X23 := h_ i23.cb; have Y23 := h_ (Sl.of_own (own_ts (t23.row O22.out (Nat.lt_succ_self _)))); have C23 := h_ Q23.out.c
        clear hb i23 t23
        refine hK.out _ _ ?_ (fun hHeld => ?_)
        ·with_reducible first | exact (Q20.out.c.keep (bz_drew (bz_refl _))) | exact C23.out | exact C22.out | exact C21.out
        clear hK K
        try simp only [Act.put]
        refine tk 15 (v := ?_) rfl (by kernel_rfl) (by kernel_rfl) (by kernel_rfl) (fun _ _ _ h => h) (by rfl) (by assumption) (fun wS hSw => ?_) ?_
        rotate_left
        ·(try dsimp only at hSw); go_simp; first | done | with_reducible rfl
        try simp only [Act.put, List.setIfInBounds_toArray, List.set_cons_zero, List.set_cons_succ]
        refine wpAnyH_done (by kernel_rfl) ?_ _
        cases q
        all_goals
         go_wp2_with (first
          | (refine loadUrl (by rfl) (.tmp 10) rfl _ p1 uu KU.out.six rfl U23.out.c ?_)
          | (refine loadUrl (by rfl) (.tmp 12) rfl _ p2 uu KU.out.six rfl V23.out.c ?_)
          | (go_at_call 19; with_reducible refine (self_any uu p1 p2 _ KU.out U23.out.sl V23.out.sl).mono ?_; rintro e w24 ⟨rfl, hb⟩; have U24 := h_ (U23.out.below hb); have T24 := h_ (T23.out.keep hb); have S24 := h_ ((S23.out.below hb).more hb.size); have X24 := h_ (X23.out.keep hb); have Y24 := h_ ((Y23.out.below hb).more hb.size); clear hb)
          | (refine loadUrl (by rfl) (.tmp 10) rfl _ p1 uu KU.out.six rfl U24.out.c ?_)
          | (refine loadUrl (by rfl) (.tmp 15) rfl _ p3 uu KU.out.six rfl T24.out ?_)
          | (go_at_call 19; with_reducible refine (self_any uu p1 p3 _ KU.out U24.out.sl S24.out).mono ?_; rintro e w25 ⟨rfl, hb⟩; have U25 := h_ (U24.out.below hb); have X25 := h_ (X24.out.keep hb); have Y25 := h_ ((Y24.out.below hb).more hb.size); clear hb)
          | (refine loadUrl (by rfl) (.tmp 10) rfl _ p1 uu KU.out.six rfl U25.out.c ?_)
          | (refine loadUrl (by rfl) (.tmp 23) rfl _ p5 uu KU.out.six rfl X25.out ?_)
          | (go_at_call 19; with_reducible refine (self_any uu p1 p5 _ KU.out U25.out.sl Y25.out).mono ?_; rintro e w26 ⟨rfl, hb⟩; have U26 := h_ (U25.out.below hb); clear hb)
          | fail)
         go_ret
         exact ⟨ret1_bool (by simp), U26.out.b⟩
end Go.Proofs.YtpckaimpjccjhaaGreatDoor
