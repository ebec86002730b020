/- The walk of ParseKinds, for texts up to 1048576 bytes (written by genK17.py). -/
import Derived.Test.YtpckaimpjccjhaaGreatDoorMLaw17E
namespace Go.Proofs.YtpckaimpjccjhaaGreatDoor
open Go.RowKit
set_option maxRecDepth 10000

/-- what the law asks of an address -/
inductive KindsU (u : Url) : Prop where
 | opq (h1 : u.opq = true) (h2 : spF u.sch = false) (h3 : u.host.kind = 0) (h4 : u.path = []) (h5 : NoWho u)
 | bare (h1 : u.opq = false) (h2 : spF u.sch = false) (h3 : u.host.kind = 0 ∨ u.host.kind = 1) (h5 : NoWho u) (h6 : u.flat = [])
 | file (h1 : u.opq = false) (h2 : u.sch = fileB) (h3 : u.host.kind = 1) (h4 : u.path ≠ []) (h5 : NoWho u) (h6 : u.flat = [])
 | host (h1 : u.opq = false) (h3 : u.host.kind ≠ 0 ∧ u.host.kind ≠ 1) (h4 : spF u.sch = true → u.path ≠ []) (h5 : (u.hasPort = false ∧ u.port = 0) ∨ (u.hasPort = true ∧ ownF u.sch ≠ some u.port)) (h6 : u.flat = [])
theorem kinds_u {u : Url} (g : Good u) : KindsU u := by
 cases g.body with
 | opq h1 h2 h3 h4 h5 => exact .opq h1 h2 (by rw [h3]; rfl) h4 h5
 | none h1 h2 h3 h5 hp => exact .bare h1 h2 (.inl (by rw [h3]; rfl)) h5 (g.fl h1)
 | file h1 hs h3 h5 hp =>
  rcases h3 with h3 | ⟨n, _, h3, _⟩
  ·exact .file h1 hs (by rw [h3]) hp h5 (g.fl h1)
  ·exact .host h1 ⟨host_kind h3, hostsp_ne h3⟩ (fun _ => hp) (.inl ⟨h5.h, h5.n⟩) (g.fl h1)
 | asked h1 hs ha hp =>
  obtain ⟨n, hh, hn⟩ := ha.h
  have hh : hostP n (spF u.sch) = some u.host := hh
  by_cases hk : u.host.kind = 1
  ·have hsp : spF u.sch = false := by
    cases h : spF u.sch with
    | false => rfl
    | true => rw [h] at hh; exact absurd hk (hostsp_ne hh)
   obtain ⟨k1, k2, k3⟩ := hn (kind_one hh hk)
   have hport : u.port = 0 := by
    rcases ha.q with ⟨_, h⟩ | ⟨h, _⟩
    ·exact h
    ·have h : u.hasPort = true := h
     have k3 : u.hasPort = false := k3
     rw [k3] at h; cases h
   exact .bare h1 hsp (.inr hk) ⟨k1, k2, k3, hport⟩ (g.fl h1)
  ·refine .host h1 ⟨host_kind hh, hk⟩ hp ?_ (g.fl h1)
   rcases ha.q with h | ⟨h, _, _, h2⟩
   ·exact .inl h
   ·exact .inr ⟨h, h2⟩
theorem uok_readJ {b u : Url} {t s : Bytes} (ht : t.length ≤ 500) (hs : s.length ≤ 500) (hb : readU t = some b) (h : readJ b s = some u) : UOk u := by
 have h0 := ul_readU (L := 500) ht (by omega) hb
 have hl := ul_readJ (L := 500) hs (by omega) h0 h
 exact ⟨good_ok (readJ_good (readU_good hb) h), ul_sm hl (by omega) (by omega), ul_bs hl (by omega)⟩
set_option maxHeartbeats 40000000 in
theorem parseKinds_walk (t s : ByteArray) (w : World) (_ : t.size ≤ maxLen) (_ : s.size ≤ maxLen) (ub : t.size ≤ 1048576) (_ : s.size ≤ 1048576) (hE : Env w) (hN : NE w) :
  Calls Tryz.prog 5 #[.string t, .string s] w fun e w' => e = .returned (.bool true) ∧ Below w.heap.size w w' := by
 have HSM := Lib.hid (small17_any w hE hN)
 have hba := fun (W : World) (hW : Below w.heap.size w W) => base17_any t W ub (hE.below hW)
 cases hb : readU (ls t) with
 | none =>
  rw [hb] at hba
  have HBA := Lib.hid (show ∀ W, Below w.heap.size w W → Calls Tryz.prog 15 #[.string t] W fun e w' => e = .returned (.tuple #[.agg (uCells nilV U0), .bool false]) ∧ Below W.heap.size W w' from hba)
  clear hba hb hE hN
  go_enter Tryz.func5, Tryz.ntmps5
  go_wp2_with (first
  | (go_at_call 14; refine HSM.out.mono ?_; rintro e w1 ⟨rfl, hb1⟩; have HB1 := Lib.hid hb1; clear hb1)
   | (go_at_call 15; refine (HBA.out _ HB1.out).mono ?_; rintro e w2 ⟨rfl, hb⟩; have HC2 := Lib.hid hb; clear hb)
   | (refine alloc_to rfl 30 rfl _ _ (allUrl _) ?_)
   | (refine storeUrl rfl (.tmp 6) (.tmp 19) rfl nilV U0 rfl rfl rfl rfl rfl ?_; intro w3 _ hb; have HB3 := Lib.hid (stp HB1.out (stp HC2.out hb)); clear hb)
   | fail)
  go_ret
  exact ⟨rfl, HB3.out⟩
 | some b =>
  rw [hb] at hba
  have B8 := Lib.hid (readU_six hb)
  by_cases ht5 : t.size ≤ 500
  case neg =>
   have HBA := Lib.hid (show ∀ W, Below w.heap.size w W → Calls Tryz.prog 15 #[.string t] W fun e w' => ∃ pv, e = .returned (.tuple #[.agg (uCells pv b), .bool false]) ∧ w'.ownsRow W.heap.size 9 1 pv b.path.length (Strs b.path) ∧ Below W.heap.size W w' from fun W hW => by have h := hba W hW; unfold BaseP at h; rw [decide_eq_false ht5] at h; exact h)
   clear hba hb hE hN ht5
   go_enter Tryz.func5, Tryz.ntmps5
   go_wp2_with (first
   | (go_at_call 14; refine HSM.out.mono ?_; rintro e w1 ⟨rfl, hb1⟩; have HB1 := Lib.hid hb1; clear hb1)
   | (go_at_call 15; refine (HBA.out _ HB1.out).mono ?_; rintro e w2 ⟨bv, rfl, oo, hb⟩; have HC2 := Lib.hid hb; have OC2 := Lib.hid (own_base oo HB1.out.size); clear hb oo)
   | (refine alloc_to rfl 30 rfl _ _ (allUrl _) ?_)
    | (refine storeUrl rfl (.tmp 6) (.tmp 19) rfl bv b B8.out (own_one OC2.out) rfl rfl rfl ?_; intro w3 _ hb; have HB3 := Lib.hid (stp HB1.out (stp HC2.out hb)); clear hb)
    | fail)
   go_ret
   exact ⟨rfl, HB3.out⟩
  case pos =>
   have HBA := Lib.hid (show ∀ W, Below w.heap.size w W → Calls Tryz.prog 15 #[.string t] W fun e w' => ∃ pv, e = .returned (.tuple #[.agg (uCells pv b), .bool true]) ∧ w'.ownsRow W.heap.size 9 1 pv b.path.length (Strs b.path) ∧ Below W.heap.size W w' from fun W hW => by have h := hba W hW; unfold BaseP at h; rw [decide_eq_true ht5] at h; exact h)
   clear hba
   by_cases hs5 : s.size ≤ 500
   case neg =>
    have hsi : (500 : Int) < s.size := by omega
    clear hb hE hN ht5 hs5
    go_enter Tryz.func5, Tryz.ntmps5
    go_wp2_with (first
    | (go_at_call 14; refine HSM.out.mono ?_; rintro e w1 ⟨rfl, hb1⟩; have HB1 := Lib.hid hb1; clear hb1)
    | (go_at_call 15; refine (HBA.out _ HB1.out).mono ?_; rintro e w2 ⟨bv, rfl, oo, hb⟩; have HC2 := Lib.hid hb; have OC2 := Lib.hid (own_base oo HB1.out.size); clear hb oo)
    | (refine alloc_to rfl 30 rfl _ _ (allUrl _) ?_)
     | (refine storeUrl rfl (.tmp 6) (.tmp 19) rfl bv b B8.out (own_one OC2.out) rfl rfl rfl ?_; intro w3 _ hb; have HB3 := Lib.hid (stp HB1.out (stp HC2.out hb)); clear hb)
     | fail)
    go_ret
    exact ⟨rfl, HB3.out⟩
   case pos =>
    have hsi : ¬ (500 : Int) < s.size := by omega
    have htl : (ls t).length ≤ 500 := by rw [ls_length]; exact ht5
    have hsl : (ls s).length ≤ 500 := by rw [ls_length]; exact hs5
    have BK := uok_read (by omega) hb
    have hj := fun (bv : Value) (W : World) (hW : Below w.heap.size w W) (o : W.ownsRow w.heap.size 9 1 bv b.path.length (Strs b.path)) => pjoin_any b bv (ls s) W BK.six (Sl.of_own (own_ts o)) BK.b (by omega) (hE.below hW)
    rw [bs_ls] at hj
    cases hu : readJ b (ls s) with
    | none =>
     rw [hu] at hj
     have HJ := Lib.hid (show ∀ bv W, Below w.heap.size w W → W.ownsRow w.heap.size 9 1 bv b.path.length (Strs b.path) → Calls Tryz.prog 16 #[.agg (uCells bv b), .string s] W fun e w' => e = .returned (.tuple #[.agg (uCells nilV U0), .bool false]) ∧ Below W.heap.size W w' from hj)
     clear hj hb hu hE hN ht5 hs5 htl hsl BK
     go_enter Tryz.func5, Tryz.ntmps5
     go_wp2_with (first
     | (go_at_call 14; refine HSM.out.mono ?_; rintro e w1 ⟨rfl, hb1⟩; have HB1 := Lib.hid hb1; clear hb1)
     | (go_at_call 15; refine (HBA.out _ HB1.out).mono ?_; rintro e w2 ⟨bv, rfl, oo, hb⟩; have HC2 := Lib.hid hb; have OC2 := Lib.hid (own_base oo HB1.out.size); clear hb oo)
     | (refine alloc_to rfl 30 rfl _ _ (allUrl _) ?_)
     | (refine storeUrl rfl (.tmp 6) (.tmp 19) rfl bv b B8.out (own_one OC2.out) rfl rfl rfl ?_; intro w3 hh hb; have HH3 := Lib.hid hh; have HO3 := Lib.hid (own_below' OC2.out hb); have HB3 := Lib.hid (stp HB1.out (stp HC2.out hb)); clear hh hb)
      | (refine loadUrl (by rfl) (.tmp 6) rfl _ bv b B8.out rfl HH3.out ?_)
      | (go_at_call 16; refine (HJ.out bv _ HB3.out HO3.out).mono ?_; rintro e w4 ⟨rfl, hb⟩; have HC4 := Lib.hid hb; clear hb)
      | (refine storeUrl rfl (.tmp 8) (.tmp 33) rfl nilV U0 rfl rfl rfl rfl rfl ?_; intro w5 _ hb; have HB5 := Lib.hid (stp HB3.out (stp HC4.out hb)); clear hb)
      | fail)
     go_ret
     exact ⟨rfl, HB5.out⟩
    | some u =>
     rw [hu] at hj
     have HJ := Lib.hid (show ∀ bv W, Below w.heap.size w W → W.ownsRow w.heap.size 9 1 bv b.path.length (Strs b.path) → Calls Tryz.prog 16 #[.agg (uCells bv b), .string s] W fun e w' => ∃ pv, e = .returned (.tuple #[.agg (uCells pv u), .bool true]) ∧ w'.ownsRow W.heap.size 9 1 pv u.path.length (Strs u.path) ∧ Below W.heap.size W w' from hj)
     have UK := uok_readJ htl hsl hb hu
     have U8 := Lib.hid UK.six
     have G := readJ_good (readU_good hb) hu
     have HKU := Lib.hid (kinds_u G)
     have hpc : ∀ x ∈ u.path, x.length ≤ 1024000000 ∧ isDot x = false ∧ isDots x = false := fun x hx => ⟨UK.bs.2 x hx, (G.pc x hx).d, (G.pc x hx).dd⟩
     have HPC := Lib.hid hpc
     have hne : u.sch ≠ [] := fun e => by have := G.sch.1; rw [e] at this; cases this
     have HNE := Lib.hid hne
     have HPL := Lib.hid UK.bs.1
     clear hj hb hu hE hN ht5 hs5 htl hsl BK UK G hpc hne
     go_enter Tryz.func5, Tryz.ntmps5
     go_upto_region 8 with (first
      | (go_at_call 14; refine HSM.out.mono ?_; rintro e w1 ⟨rfl, hb1⟩; have HB1 := Lib.hid hb1; clear hb1)
      | (go_at_call 15; refine (HBA.out _ HB1.out).mono ?_; rintro e w2 ⟨bv, rfl, oo, hb⟩; have HC2 := Lib.hid hb; have OC2 := Lib.hid (own_base oo HB1.out.size); clear hb oo)
      | (refine alloc_to rfl 30 rfl _ _ (allUrl _) ?_)
      | (refine storeUrl rfl (.tmp 6) (.tmp 19) rfl bv b B8.out (own_one OC2.out) rfl rfl rfl ?_; intro w3 hh hb; have HH3 := Lib.hid hh; have HO3 := Lib.hid (own_below' OC2.out hb); have HB3 := Lib.hid (stp HB1.out (stp HC2.out hb)); clear hh hb)
      | (refine loadUrl (by rfl) (.tmp 6) rfl _ bv b B8.out rfl HH3.out ?_)
      | (go_at_call 16; refine (HJ.out bv _ HB3.out HO3.out).mono ?_; rintro e w4 ⟨pv, rfl, oo, hb⟩; have HC4 := Lib.hid hb; have OC4 := Lib.hid (own_base oo HB3.out.size); clear hb oo)
      | (refine storeUrl rfl (.tmp 8) (.tmp 33) rfl pv u U8.out (own_one OC4.out) rfl rfl rfl ?_; intro w5 hh hb; have HH5 := Lib.hid hh; have HO5 := Lib.hid (own_below' OC4.out hb); have HB5 := Lib.hid (stp HB3.out (stp HC4.out hb)); clear hh hb)
      | fail)
     obtain ⟨g8, hg8⟩ : ∃ g, g = w4.heap.size := ⟨_, rfl⟩
     rw [← hg8] at HH5 ⊢
     clear hg8 HH3 HO3 HC2 HC4 OC2 OC4 HBA HJ HSM
     have at1 := uAt pv u U8.out
     have hsl := Sl.of_own (own_ts HO5.out)
     obtain ⟨av, cv, hpv⟩ := slice_val hsl
     rw [List.length_map] at hpv
     have HSL := Lib.hid hsl
     have HPV := Lib.hid hpv
     obtain ⟨N, hN⟩ : ∃ N, N = u.path.length := ⟨_, rfl⟩
     obtain ⟨psc, hpsc⟩ : ∃ z, z = bs u.sch := ⟨_, rfl⟩
     obtain ⟨pus, hpus⟩ : ∃ z, z = bs u.usr := ⟨_, rfl⟩
     obtain ⟨ppa, hppa⟩ : ∃ z, z = bs u.pas := ⟨_, rfl⟩
     obtain ⟨pfl, hpfl⟩ : ∃ z, z = bs u.flat := ⟨_, rfl⟩
     have HRP := Lib.hid (show ∀ W, Calls Tryz.prog 21 #[.string psc] W fun e w' => e = .returned (.tuple #[.int .i64 ((ownF u.sch).getD 0), .bool (ownF u.sch).isSome]) ∧ w' = W from fun W => by rw [hpsc]; exact rport_any u.sch W)
     have HSP := Lib.hid (show ∀ W, Calls Tryz.prog 22 #[.string psc] W fun e w' => e = .returned (.bool (spF u.sch)) ∧ w' = W from fun W => by rw [hpsc]; exact special_any u.sch W)
     have hne1 : psc.toList.isEmpty = false := by
      have : ¬ psc.toList = [] := by rw [hpsc, toList_bs]; exact HNE.out
      simpa using this
     have HCC := Lib.hid (fun (W : World) (k : CB W g8 30 (uCells pv u)) => (show W.cell? ⟨g8, 0, none⟩ = some (.string psc) ∧ W.cell? ⟨g8, 1, none⟩ = some (.string pus) ∧ W.cell? ⟨g8, 2, none⟩ = some (.string ppa) ∧ W.cell? ⟨g8, 3, none⟩ = some (.int .i64 u.host.kind) ∧ W.cell? ⟨g8, 14, none⟩ = some (.bool u.hasPort) ∧ W.cell? ⟨g8, 15, none⟩ = some (.int .i64 u.port) ∧ W.cell? ⟨g8, 16, none⟩ = some (.bool u.opq) ∧ W.cell? ⟨g8, 17, none⟩ = some (.string pfl) ∧ W.cell? ⟨g8, 18, none⟩ = some (.slice av N cv) from
      ⟨by rw [hpsc]; exact k.cell_is at1.sch, by rw [hpus]; exact k.cell_is at1.usr, by rw [hppa]; exact k.cell_is at1.pas, k.cell_is at1.kind, k.cell_is at1.hasPort, k.cell_is at1.port, k.cell_is at1.opq, by rw [hpfl]; exact k.cell_is at1.flat, by rw [hN, ← HPV.out]; exact k.cell_is at1.path⟩))
     have HUS := Lib.hid (fun h : u.usr = [] => (show pus.toList.isEmpty = true by rw [hpus, toList_bs, h]; rfl))
     have HPA := Lib.hid (fun h : u.pas = [] => (show ppa.toList.isEmpty = true by rw [hppa, toList_bs, h]; rfl))
     have HFL := Lib.hid (fun h : u.flat = [] => (show pfl.toList.isEmpty = true by rw [hpfl, toList_bs, h]; rfl))
     have HFI := Lib.hid (fun h : u.sch = fileB => (show (psc.toList == [102, 105, 108, 101]) = true by rw [hpsc, toList_bs, h]; rfl))
     have HNN := Lib.hid (show u.path = [] ↔ N = 0 by rw [hN]; exact List.length_eq_zero_iff.symm)
     have HNL := Lib.hid hN
     clear at1 hsl hpv hpsc hpus hppa hpfl hN
     cases HKU.out with
     | opq h1 h2 h3 h4 h5 =>
      have hn0 : N = 0 := HNN.out.mp h4
      rw [h2] at HSP
      rw [h1, h3] at HCC
      rw [h5.h, h5.n] at HCC
      have hus := HUS.out h5.u
      have hpa := HPA.out h5.p
      have hn0i : ((N : Int) == 0) = true := by rw [hn0]; rfl
      have hn0j : ((N : Int) != 0) = false := by rw [hn0]; rfl
      clear hn0 h1 h2 h3 h4 h5 HKU
      obtain ⟨c0, c1, c2, c3, c14, c15, c16, c17, c18⟩ := HCC.out _ HH5.out
      go_upto_region 11 with (first
       | (go_at_call 21; refine (HRP.out _).mono ?_; rintro e w6 ⟨rfl, hw⟩; subst hw)
       | (go_at_call 22; refine (HSP.out _).mono ?_; rintro e w6 ⟨rfl, hw⟩; subst hw)
       | fail)
      refine wp_region_lit ?_
      try simp only [List.append_eq, List.cons_append, List.nil_append]
      go_wp2_with fail
      clear c0 c1 c2 c3 c14 c15 c16 c17 c18
      go_loopw [14] (fun iv wr => ∃ k : Nat, k ≤ N ∧ iv = .int .i64 k ∧ Hid (Below w6.heap.size w6 wr)) (fun i _ => N - (intOf i).toNat)
      case atStart => exact ⟨0, Nat.zero_le _, by simp, Lib.hid (Below.refl _ _)⟩
      case round =>
       obtain ⟨k, hk, rfl, HBK⟩ := hrel
       have HK := Lib.hid (HH5.out.keep HBK.out)
       obtain ⟨c0, c1, c2, c3, c14, c15, c16, c17, c18⟩ := HCC.out _ HK.out
       by_cases hlt : k < N
       ·clear c0 c1 c2 c3 c14 c15 c16 c17
        have hkl : k < u.path.length := by rw [← HNL.out]; exact hlt
        have hsl := HSL.out
        rw [HPV.out] at hsl
        obtain ⟨pb, po, rfl, hpb, hcc⟩ := strs_at ((hsl.below HBK.out)) k hkl
        have HPB := Lib.hid (Nat.lt_of_lt_of_le hpb HBK.out.size)
        obtain ⟨hx1, hx2, hx3⟩ := HPC.out u.path[k] (List.getElem_mem hkl)
        have hdt := fun W => dot_any u.path[k] W (by omega)
        have hdd := fun W => dots_any u.path[k] W (by omega)
        rw [hx2] at hdt
        rw [hx3] at hdd
        obtain ⟨pc, hpc⟩ : ∃ pc, pc = bs u.path[k] := ⟨_, rfl⟩
        have hcc2 : wr.cell? ⟨pb, po + k, none⟩ = some (.string pc) := by rw [hpc]; exact hcc
        rw [← hpc] at hdt hdd
        have HDT := Lib.hid hdt
        have HDD := Lib.hid hdd
        have hNm : N ≤ 307200000 := by rw [HNL.out]; exact HPL.out
        clear hsl hpb hcc hx1 hx2 hx3 hdt hdd hpc hkl
        go_wp2_with (first
         | (go_at_call 23; refine (HDT.out _).mono ?_; rintro e w7 ⟨rfl, hb⟩; have HB7 := Lib.hid (stp HBK.out hb); have c18b := (HCC.out _ (HK.out.keep hb)).2.2.2.2.2.2.2.2; have hcc3 := (hb.cell (p := ⟨pb, po + k, none⟩) HPB.out).trans hcc2; clear hb)
         | (go_at_call 24; refine (HDD.out _).mono ?_; rintro e w8 ⟨rfl, hb⟩; have HB8 := Lib.hid (stp HB7.out hb); clear hb)
         | fail)
        go_roundw
        case rel => exact ⟨k + 1, by omega, by simp, HB8⟩
        case measure => simp [intOf]; omega
       ·obtain rfl : k = N := by omega
        go_wp2_with fail
        go_ret
        exact ⟨ret1_bool (by simp), stp HB5.out HBK.out⟩
     | bare h1 h2 h3 h5 h6 =>
      rw [h2] at HSP
      rw [h1] at HCC
      have hfl := HFL.out h6
      rw [h5.h, h5.n] at HCC
      have hus := HUS.out h5.u
      have hpa := HPA.out h5.p
      rcases h3 with h3 | h3 <;>
      ·rw [h3] at HCC
       clear h1 h2 h3 h5 h6 HKU
       obtain ⟨c0, c1, c2, c3, c14, c15, c16, c17, c18⟩ := HCC.out _ HH5.out
       go_upto_region 11 with (first
        | (go_at_call 21; refine (HRP.out _).mono ?_; rintro e w6 ⟨rfl, hw⟩; subst hw)
        | (go_at_call 22; refine (HSP.out _).mono ?_; rintro e w6 ⟨rfl, hw⟩; subst hw)
        | fail)
       refine wp_region_lit ?_
       try simp only [List.append_eq, List.cons_append, List.nil_append]
       go_wp2_with fail
       clear c0 c1 c2 c3 c14 c15 c16 c17 c18
       go_loopw [14] (fun iv wr => ∃ k : Nat, k ≤ N ∧ iv = .int .i64 k ∧ Hid (Below w6.heap.size w6 wr)) (fun i _ => N - (intOf i).toNat)
       case atStart => exact ⟨0, Nat.zero_le _, by simp, Lib.hid (Below.refl _ _)⟩
       case round =>
        obtain ⟨k, hk, rfl, HBK⟩ := hrel
        have HK := Lib.hid (HH5.out.keep HBK.out)
        obtain ⟨c0, c1, c2, c3, c14, c15, c16, c17, c18⟩ := HCC.out _ HK.out
        by_cases hlt : k < N
        ·clear c0 c1 c2 c3 c14 c15 c16 c17
         have hkl : k < u.path.length := by rw [← HNL.out]; exact hlt
         have hsl := HSL.out
         rw [HPV.out] at hsl
         obtain ⟨pb, po, rfl, hpb, hcc⟩ := strs_at ((hsl.below HBK.out)) k hkl
         have HPB := Lib.hid (Nat.lt_of_lt_of_le hpb HBK.out.size)
         obtain ⟨hx1, hx2, hx3⟩ := HPC.out u.path[k] (List.getElem_mem hkl)
         have hdt := fun W => dot_any u.path[k] W (by omega)
         have hdd := fun W => dots_any u.path[k] W (by omega)
         rw [hx2] at hdt
         rw [hx3] at hdd
         obtain ⟨pc, hpc⟩ : ∃ pc, pc = bs u.path[k] := ⟨_, rfl⟩
         have hcc2 : wr.cell? ⟨pb, po + k, none⟩ = some (.string pc) := by rw [hpc]; exact hcc
         rw [← hpc] at hdt hdd
         have HDT := Lib.hid hdt
         have HDD := Lib.hid hdd
         have hNm : N ≤ 307200000 := by rw [HNL.out]; exact HPL.out
         clear hsl hpb hcc hx1 hx2 hx3 hdt hdd hpc hkl
         go_wp2_with (first
          | (go_at_call 23; refine (HDT.out _).mono ?_; rintro e w7 ⟨rfl, hb⟩; have HB7 := Lib.hid (stp HBK.out hb); have c18b := (HCC.out _ (HK.out.keep hb)).2.2.2.2.2.2.2.2; have hcc3 := (hb.cell (p := ⟨pb, po + k, none⟩) HPB.out).trans hcc2; clear hb)
          | (go_at_call 24; refine (HDD.out _).mono ?_; rintro e w8 ⟨rfl, hb⟩; have HB8 := Lib.hid (stp HB7.out hb); clear hb)
          | fail)
         go_roundw
         case rel => exact ⟨k + 1, by omega, by simp, HB8⟩
         case measure => simp [intOf]; omega
        ·obtain rfl : k = N := by omega
         go_wp2_with fail
         go_ret
         exact ⟨ret1_bool (by simp), stp HB5.out HBK.out⟩
     | file h1 h2 h3 h4 h5 h6 =>
      have hn0 : N ≠ 0 := fun h => h4 (HNN.out.mpr h)
      have hn0i : ((N : Int) == 0) = false := by
       have : (N : Int) ≠ 0 := by omega
       simpa using this
      rw [h2, fileB_sp] at HSP
      rw [h1, h3] at HCC
      have hfl := HFL.out h6
      have hfi := HFI.out h2
      rw [h5.h, h5.n] at HCC
      have hus := HUS.out h5.u
      have hpa := HPA.out h5.p
      clear h1 h2 h3 h4 h5 h6 HKU
      obtain ⟨c0, c1, c2, c3, c14, c15, c16, c17, c18⟩ := HCC.out _ HH5.out
      go_upto_region 11 with (first
       | (go_at_call 21; refine (HRP.out _).mono ?_; rintro e w6 ⟨rfl, hw⟩; subst hw)
       | (go_at_call 22; refine (HSP.out _).mono ?_; rintro e w6 ⟨rfl, hw⟩; subst hw)
       | fail)
      refine wp_region_lit ?_
      try simp only [List.append_eq, List.cons_append, List.nil_append]
      go_wp2_with fail
      clear c0 c1 c2 c3 c14 c15 c16 c17 c18
      go_loopw [14] (fun iv wr => ∃ k : Nat, k ≤ N ∧ iv = .int .i64 k ∧ Hid (Below w6.heap.size w6 wr)) (fun i _ => N - (intOf i).toNat)
      case atStart => exact ⟨0, Nat.zero_le _, by simp, Lib.hid (Below.refl _ _)⟩
      case round =>
       obtain ⟨k, hk, rfl, HBK⟩ := hrel
       have HK := Lib.hid (HH5.out.keep HBK.out)
       obtain ⟨c0, c1, c2, c3, c14, c15, c16, c17, c18⟩ := HCC.out _ HK.out
       by_cases hlt : k < N
       ·clear c0 c1 c2 c3 c14 c15 c16 c17
        have hkl : k < u.path.length := by rw [← HNL.out]; exact hlt
        have hsl := HSL.out
        rw [HPV.out] at hsl
        obtain ⟨pb, po, rfl, hpb, hcc⟩ := strs_at ((hsl.below HBK.out)) k hkl
        have HPB := Lib.hid (Nat.lt_of_lt_of_le hpb HBK.out.size)
        obtain ⟨hx1, hx2, hx3⟩ := HPC.out u.path[k] (List.getElem_mem hkl)
        have hdt := fun W => dot_any u.path[k] W (by omega)
        have hdd := fun W => dots_any u.path[k] W (by omega)
        rw [hx2] at hdt
        rw [hx3] at hdd
        obtain ⟨pc, hpc⟩ : ∃ pc, pc = bs u.path[k] := ⟨_, rfl⟩
        have hcc2 : wr.cell? ⟨pb, po + k, none⟩ = some (.string pc) := by rw [hpc]; exact hcc
        rw [← hpc] at hdt hdd
        have HDT := Lib.hid hdt
        have HDD := Lib.hid hdd
        have hNm : N ≤ 307200000 := by rw [HNL.out]; exact HPL.out
        clear hsl hpb hcc hx1 hx2 hx3 hdt hdd hpc hkl
        go_wp2_with (first
         | (go_at_call 23; refine (HDT.out _).mono ?_; rintro e w7 ⟨rfl, hb⟩; have HB7 := Lib.hid (stp HBK.out hb); have c18b := (HCC.out _ (HK.out.keep hb)).2.2.2.2.2.2.2.2; have hcc3 := (hb.cell (p := ⟨pb, po + k, none⟩) HPB.out).trans hcc2; clear hb)
         | (go_at_call 24; refine (HDD.out _).mono ?_; rintro e w8 ⟨rfl, hb⟩; have HB8 := Lib.hid (stp HB7.out hb); clear hb)
         | fail)
        go_roundw
        case rel => exact ⟨k + 1, by omega, by simp, HB8⟩
        case measure => simp [intOf]; omega
       ·obtain rfl : k = N := by omega
        go_wp2_with fail
        go_ret
        exact ⟨ret1_bool (by simp), stp HB5.out HBK.out⟩
     | host h1 h3 h4 h5 h6 =>
      have hk0 : (u.host.kind == 0) = false := by simpa using h3.1
      have hk1 : (u.host.kind == 1) = false := by simpa using h3.2
      generalize u.host.kind = K at hk0 hk1 HCC
      rw [h1] at HCC
      have hfl := HFL.out h6
      have hsn : (spF u.sch = true ∧ ((N : Int) == 0) = false) ∨ spF u.sch = false := by
       cases hsp : spF u.sch with
       | false => exact .inr rfl
       | true =>
        refine .inl ⟨rfl, ?_⟩
        have h := h4 hsp
        have : N ≠ 0 := fun e => h (HNN.out.mpr e)
        have : (N : Int) ≠ 0 := by omega
        simpa using this
      have hpo : (u.hasPort = false ∧ u.port = 0) ∨ (u.hasPort = true ∧ ownF u.sch = none) ∨ (u.hasPort = true ∧ ∃ n, ownF u.sch = some n ∧ (u.port == n) = false) := by
       rcases h5 with h | ⟨h, h2⟩
       ·exact .inl h
       ·cases ho : ownF u.sch with
        | none => exact .inr (.inl ⟨h, rfl⟩)
        | some n =>
         refine .inr (.inr ⟨h, n, rfl, ?_⟩)
         have : u.port ≠ n := fun e => h2 (by rw [ho, e])
         simpa using this
      clear h1 h3 h4 h5 h6 HKU
      rcases hpo with ⟨e1, e2⟩ | ⟨e1, e2⟩ | ⟨e1, n, e2, e3⟩
      ·rw [e1, e2] at HCC
       rcases hsn with ⟨hsp, hn0i⟩ | hsp <;>
       ·rw [hsp] at HSP
        clear e1 e2 hsp
        obtain ⟨c0, c1, c2, c3, c14, c15, c16, c17, c18⟩ := HCC.out _ HH5.out
        go_upto_region 11 with (first
         | (go_at_call 21; refine (HRP.out _).mono ?_; rintro e w6 ⟨rfl, hw⟩; subst hw)
         | (go_at_call 22; refine (HSP.out _).mono ?_; rintro e w6 ⟨rfl, hw⟩; subst hw)
         | fail)
        refine wp_region_lit ?_
        try simp only [List.append_eq, List.cons_append, List.nil_append]
        go_wp2_with fail
        clear c0 c1 c2 c3 c14 c15 c16 c17 c18
        go_loopw [14] (fun iv wr => ∃ k : Nat, k ≤ N ∧ iv = .int .i64 k ∧ Hid (Below w6.heap.size w6 wr)) (fun i _ => N - (intOf i).toNat)
        case atStart => exact ⟨0, Nat.zero_le _, by simp, Lib.hid (Below.refl _ _)⟩
        case round =>
         obtain ⟨k, hk, rfl, HBK⟩ := hrel
         have HK := Lib.hid (HH5.out.keep HBK.out)
         obtain ⟨c0, c1, c2, c3, c14, c15, c16, c17, c18⟩ := HCC.out _ HK.out
         by_cases hlt : k < N
         ·clear c0 c1 c2 c3 c14 c15 c16 c17
          have hkl : k < u.path.length := by rw [← HNL.out]; exact hlt
          have hsl := HSL.out
          rw [HPV.out] at hsl
          obtain ⟨pb, po, rfl, hpb, hcc⟩ := strs_at ((hsl.below HBK.out)) k hkl
          have HPB := Lib.hid (Nat.lt_of_lt_of_le hpb HBK.out.size)
          obtain ⟨hx1, hx2, hx3⟩ := HPC.out u.path[k] (List.getElem_mem hkl)
          have hdt := fun W => dot_any u.path[k] W (by omega)
          have hdd := fun W => dots_any u.path[k] W (by omega)
          rw [hx2] at hdt
          rw [hx3] at hdd
          obtain ⟨pc, hpc⟩ : ∃ pc, pc = bs u.path[k] := ⟨_, rfl⟩
          have hcc2 : wr.cell? ⟨pb, po + k, none⟩ = some (.string pc) := by rw [hpc]; exact hcc
          rw [← hpc] at hdt hdd
          have HDT := Lib.hid hdt
          have HDD := Lib.hid hdd
          have hNm : N ≤ 307200000 := by rw [HNL.out]; exact HPL.out
          clear hsl hpb hcc hx1 hx2 hx3 hdt hdd hpc hkl
          go_wp2_with (first
           | (go_at_call 23; refine (HDT.out _).mono ?_; rintro e w7 ⟨rfl, hb⟩; have HB7 := Lib.hid (stp HBK.out hb); have c18b := (HCC.out _ (HK.out.keep hb)).2.2.2.2.2.2.2.2; have hcc3 := (hb.cell (p := ⟨pb, po + k, none⟩) HPB.out).trans hcc2; clear hb)
           | (go_at_call 24; refine (HDD.out _).mono ?_; rintro e w8 ⟨rfl, hb⟩; have HB8 := Lib.hid (stp HB7.out hb); clear hb)
           | fail)
          go_roundw
          case rel => exact ⟨k + 1, by omega, by simp, HB8⟩
          case measure => simp [intOf]; omega
         ·obtain rfl : k = N := by omega
          go_wp2_with fail
          go_ret
          exact ⟨ret1_bool (by simp), stp HB5.out HBK.out⟩
      ·rw [e1] at HCC
       rw [e2] at HRP
       rcases hsn with ⟨hsp, hn0i⟩ | hsp <;>
       ·rw [hsp] at HSP
        clear e1 e2 hsp
        obtain ⟨c0, c1, c2, c3, c14, c15, c16, c17, c18⟩ := HCC.out _ HH5.out
        go_upto_region 11 with (first
         | (go_at_call 21; refine (HRP.out _).mono ?_; rintro e w6 ⟨rfl, hw⟩; subst hw)
         | (go_at_call 22; refine (HSP.out _).mono ?_; rintro e w6 ⟨rfl, hw⟩; subst hw)
         | fail)
        refine wp_region_lit ?_
        try simp only [List.append_eq, List.cons_append, List.nil_append]
        go_wp2_with fail
        clear c0 c1 c2 c3 c14 c15 c16 c17 c18
        go_loopw [14] (fun iv wr => ∃ k : Nat, k ≤ N ∧ iv = .int .i64 k ∧ Hid (Below w6.heap.size w6 wr)) (fun i _ => N - (intOf i).toNat)
        case atStart => exact ⟨0, Nat.zero_le _, by simp, Lib.hid (Below.refl _ _)⟩
        case round =>
         obtain ⟨k, hk, rfl, HBK⟩ := hrel
         have HK := Lib.hid (HH5.out.keep HBK.out)
         obtain ⟨c0, c1, c2, c3, c14, c15, c16, c17, c18⟩ := HCC.out _ HK.out
         by_cases hlt : k < N
         ·clear c0 c1 c2 c3 c14 c15 c16 c17
          have hkl : k < u.path.length := by rw [← HNL.out]; exact hlt
          have hsl := HSL.out
          rw [HPV.out] at hsl
          obtain ⟨pb, po, rfl, hpb, hcc⟩ := strs_at ((hsl.below HBK.out)) k hkl
          have HPB := Lib.hid (Nat.lt_of_lt_of_le hpb HBK.out.size)
          obtain ⟨hx1, hx2, hx3⟩ := HPC.out u.path[k] (List.getElem_mem hkl)
          have hdt := fun W => dot_any u.path[k] W (by omega)
          have hdd := fun W => dots_any u.path[k] W (by omega)
          rw [hx2] at hdt
          rw [hx3] at hdd
          obtain ⟨pc, hpc⟩ : ∃ pc, pc = bs u.path[k] := ⟨_, rfl⟩
          have hcc2 : wr.cell? ⟨pb, po + k, none⟩ = some (.string pc) := by rw [hpc]; exact hcc
          rw [← hpc] at hdt hdd
          have HDT := Lib.hid hdt
          have HDD := Lib.hid hdd
          have hNm : N ≤ 307200000 := by rw [HNL.out]; exact HPL.out
          clear hsl hpb hcc hx1 hx2 hx3 hdt hdd hpc hkl
          go_wp2_with (first
           | (go_at_call 23; refine (HDT.out _).mono ?_; rintro e w7 ⟨rfl, hb⟩; have HB7 := Lib.hid (stp HBK.out hb); have c18b := (HCC.out _ (HK.out.keep hb)).2.2.2.2.2.2.2.2; have hcc3 := (hb.cell (p := ⟨pb, po + k, none⟩) HPB.out).trans hcc2; clear hb)
           | (go_at_call 24; refine (HDD.out _).mono ?_; rintro e w8 ⟨rfl, hb⟩; have HB8 := Lib.hid (stp HB7.out hb); clear hb)
           | fail)
          go_roundw
          case rel => exact ⟨k + 1, by omega, by simp, HB8⟩
          case measure => simp [intOf]; omega
         ·obtain rfl : k = N := by omega
          go_wp2_with fail
          go_ret
          exact ⟨ret1_bool (by simp), stp HB5.out HBK.out⟩
      ·rw [e1] at HCC
       rw [e2] at HRP
       generalize u.port = po at e3 HCC
       rcases hsn with ⟨hsp, hn0i⟩ | hsp <;>
       ·rw [hsp] at HSP
        clear e1 e2 hsp
        obtain ⟨c0, c1, c2, c3, c14, c15, c16, c17, c18⟩ := HCC.out _ HH5.out
        go_upto_region 11 with (first
         | (go_at_call 21; refine (HRP.out _).mono ?_; rintro e w6 ⟨rfl, hw⟩; subst hw)
         | (go_at_call 22; refine (HSP.out _).mono ?_; rintro e w6 ⟨rfl, hw⟩; subst hw)
         | fail)
        refine wp_region_lit ?_
        try simp only [List.append_eq, List.cons_append, List.nil_append]
        go_wp2_with fail
        clear c0 c1 c2 c3 c14 c15 c16 c17 c18
        go_loopw [14] (fun iv wr => ∃ k : Nat, k ≤ N ∧ iv = .int .i64 k ∧ Hid (Below w6.heap.size w6 wr)) (fun i _ => N - (intOf i).toNat)
        case atStart => exact ⟨0, Nat.zero_le _, by simp, Lib.hid (Below.refl _ _)⟩
        case round =>
         obtain ⟨k, hk, rfl, HBK⟩ := hrel
         have HK := Lib.hid (HH5.out.keep HBK.out)
         obtain ⟨c0, c1, c2, c3, c14, c15, c16, c17, c18⟩ := HCC.out _ HK.out
         by_cases hlt : k < N
         ·clear c0 c1 c2 c3 c14 c15 c16 c17
          have hkl : k < u.path.length := by rw [← HNL.out]; exact hlt
          have hsl := HSL.out
          rw [HPV.out] at hsl
          obtain ⟨pb, po, rfl, hpb, hcc⟩ := strs_at ((hsl.below HBK.out)) k hkl
          have HPB := Lib.hid (Nat.lt_of_lt_of_le hpb HBK.out.size)
          obtain ⟨hx1, hx2, hx3⟩ := HPC.out u.path[k] (List.getElem_mem hkl)
          have hdt := fun W => dot_any u.path[k] W (by omega)
          have hdd := fun W => dots_any u.path[k] W (by omega)
          rw [hx2] at hdt
          rw [hx3] at hdd
          obtain ⟨pc, hpc⟩ : ∃ pc, pc = bs u.path[k] := ⟨_, rfl⟩
          have hcc2 : wr.cell? ⟨pb, po + k, none⟩ = some (.string pc) := by rw [hpc]; exact hcc
          rw [← hpc] at hdt hdd
          have HDT := Lib.hid hdt
          have HDD := Lib.hid hdd
          have hNm : N ≤ 307200000 := by rw [HNL.out]; exact HPL.out
          clear hsl hpb hcc hx1 hx2 hx3 hdt hdd hpc hkl
          go_wp2_with (first
           | (go_at_call 23; refine (HDT.out _).mono ?_; rintro e w7 ⟨rfl, hb⟩; have HB7 := Lib.hid (stp HBK.out hb); have c18b := (HCC.out _ (HK.out.keep hb)).2.2.2.2.2.2.2.2; have hcc3 := (hb.cell (p := ⟨pb, po + k, none⟩) HPB.out).trans hcc2; clear hb)
           | (go_at_call 24; refine (HDD.out _).mono ?_; rintro e w8 ⟨rfl, hb⟩; have HB8 := Lib.hid (stp HB7.out hb); clear hb)
           | fail)
          go_roundw
          case rel => exact ⟨k + 1, by omega, by simp, HB8⟩
          case measure => simp [intOf]; omega
         ·obtain rfl : k = N := by omega
          go_wp2_with fail
          go_ret
          exact ⟨ret1_bool (by simp), stp HB5.out HBK.out⟩
end Go.Proofs.YtpckaimpjccjhaaGreatDoor
