/- AthH AthK UrlB WlkA WlkB WlkC WlkE WlkF WlkG: joined. -/
import Derived.Deep.DeepCutAuto
import Derived.Test.YtjgenpooedkfmaaGreatDoorGHlwA
import Derived.Test.YtjgenpooedkfmaaGreatDoorGAthB
import Derived.Test.YtjgenpooedkfmaaGreatDoorGSlic
import Derived.Test.YtjgenpooedkfmaaGreatDoorGFouA
/- authority.Parse: its walk. -/
namespace Go.Proofs.YtjgenpooedkfmaaGreatDoor
open Go.RowKit
set_option maxRecDepth 10000

/-- who is named, and the rest -/
def stF (l : Bytes) : Option (Bytes × Bytes × Bytes) := match atF l with
  | none => some (l, [], [])
  | some (who, rest) => if rest = [] then none else some (rest, pcB 5 (cutF who).1, pcB 5 (cutF who).2)
theorem auth_st (sch l : Bytes) : authF sch l = match stF l with | none => none | some (s, u, p) => restF sch s u p := by
  unfold authF stF
  cases atF l with
  | none => rfl
  | some v =>
    obtain ⟨a, b⟩ := v
    dsimp only
    split <;> rfl
/-- name and port -/
def nqF (s : Bytes) : Option (Bytes × Bytes) := match colN false s with
  | none => some (s, [])
  | some k => if s.take k = [] then none else some (s.take k, s.drop (k + 1))
theorem rest_nq (sch s u p : Bytes) : restF sch s u p = match nqF s with | none => none | some (n, q) => finF sch n q u p := by
  unfold restF nqF
  rw [col_n]
  cases colN false s with
  | none => rfl
  | some k =>
    simp only [Option.map_some]
    split <;> rfl
theorem ares {tmps : Array Value} {w w2 : World} {b : Nat} {a : Ath} {q : Bool} (h2 : tmps.getD 4 undef = .pointer (some ⟨b, 0, none⟩)) (h3 : tmps.getD 5 undef = .bool q) (i : OB w b 29 (aCells a) w2) (a8 : a.host.six.length = 8) {R : Option Ath} (hR : a = R.getD A0) (hq : q = R.isSome) :
    bodyPost Tryz.prog Tryz.f10 (fun e w' => e = athE R ∧ Below w.heap.size w w') Exit.ret { tmps := tmps, defers := [] } w2 := by
  have h2' : tmps[4]?.getD undef = .pointer (some ⟨b, 0, none⟩) := by simpa using h2
  have h3' : tmps[5]?.getD undef = .bool q := by simpa using h3
  have hl := i.load (P := Tryz.prog) 29 _ Tryz.underlying29 rfl (by rw [ath_size a8]; exact ath_info)
  refine bodyPost_ret (v := .tuple #[.agg (aCells a), .bool q]) ?_ rfl ⟨by rw [hR, hq], i.bel⟩
  simp [results, Tryz.results10, asAddr, h2', h3', hl]
/-- a whole Auth is stored -/
theorem putA {ops : Array Oper} {rest : List Oper} {o : Oper} {a : Act} {w : World} {Q : Exit → Act → World → Prop} (hgd : o.guard = none) (x y : Operand) (ho : o.op = .store 29 x y) (w0 : World) (b : Nat) (a0 a1 : Ath) (i : OB w0 b 29 (aCells a0) w)
    (h0 : a0.host.six.length = 8) (h1 : a1.host.six.length = 8) (hx : a.eval x = .pointer (some ⟨b, 0, none⟩)) (hy : a.eval y = .agg (aCells a1))
    (K : ∀ w', OB w0 b 29 (aCells a1) w' → wpList Tryz.prog ops Q rest (a.put o.dst undef) w') : wpList Tryz.prog ops Q (o :: rest) a w :=
  putN hgd 29 x y ho w0 b 29 (aCells a0) i 0 (athCells a1) hx hy (by rw [ath_size h0, ath_len h1]; exact Nat.le_refl _) (by rw [ath_len h1]; exact ath_info) ath_one (aCells a1) (putC_whole _ _ (by rw [ath_len h0, ath_len h1])) K
theorem nq_len {s n q : Bytes} (h : nqF s = some (n, q)) : n.length ≤ s.length ∧ q.length ≤ s.length := by
  unfold nqF at h
  split at h
  · injection h with h
    injection h with h1 h2
    subst h1; subst h2
    simp
  · split at h
    · cases h
    · injection h with h
      injection h with h1 h2
      subst h1; subst h2
      rw [List.length_take, List.length_drop]
      omega
theorem st_len {l s u p : Bytes} (h : stF l = some (s, u, p)) : s.length ≤ l.length := by
  unfold stF at h
  rcases at_last l with ⟨_, e⟩ | ⟨i, hi, _, e⟩
  · rw [e] at h
    injection h with h
    injection h with h1 h2
    rw [h1]; exact Nat.le_refl _
  · rw [e] at h
    dsimp only at h
    split at h
    · cases h
    · injection h with h
      injection h with h1 h2
      rw [← h1, List.length_drop]; omega
set_option maxHeartbeats 20000000 in
theorem aparse_gen (sch l : Bytes) (w : World) (hl : l.length ≤ 300000) (hS : ∀ s u p n q, stF l = some (s, u, p) → nqF s = some (n, q) → Short n) (hE : Env w) : Calls Tryz.prog 10 #[.string (bs sch), .string (bs l)] w fun e w' => e = athE (authF sch l) ∧ Below w.heap.size w w' := by
  obtain ⟨R, hR⟩ : ∃ R, R = authF sch l := ⟨_, rfl⟩
  rw [← hR]
  rw [auth_st] at hR
  have HR := Lib.hid hR; clear hR
  have HSH := Lib.hid hS; clear hS
  have hlib := fun W => Any.strings_LastIndexByte Tryz.laysLib (bs l) 64 (by rw [bs_size]; omega) W
  have hla := at_last l
  obtain ⟨I, hI⟩ : ∃ I, I = Lib.lastIndexByte (bs l) 64 := ⟨_, rfl⟩
  have hlib2 : ∀ W, Calls Tryz.prog 29 #[.string (bs l), .int .u8 64] W fun e w' => e = .returned (.int .i64 I) ∧ w' = W := by rw [hI]; exact hlib
  rw [← hI] at hla
  have HLIB := Lib.hid hlib2; clear hlib2 hlib hI
  have hsp := fun W => special_any sch W
  have hpo := fun q W (hq : q.length ≤ 1000000) => aport_any sch q W hq
  obtain ⟨ss, hss⟩ : ∃ ss, ss = bs sch := ⟨_, rfl⟩
  rw [← hss] at hsp hpo ⊢
  clear hss
  have HSP := Lib.hid hsp; clear hsp
  have HPO := Lib.hid hpo; clear hpo
  obtain ⟨s, hs⟩ : ∃ s, s = bs l := ⟨_, rfl⟩
  have hsz : s.size = l.length := by rw [hs, bs_size]
  have hx1 : ∀ k, s.extract 0 k = bs (l.take k) := fun k => by rw [hs, bs_extract, List.drop_zero, Nat.sub_zero]
  have hx2 : ∀ k, s.extract k s.size = bs (l.drop k) := fun k => by rw [hs, bs_extract, bs_size, List.take_of_length_le (by rw [List.length_drop]; omega)]
  have HS := Lib.hid hs
  rw [← hs] at HLIB ⊢
  clear hs
  obtain ⟨N, hN⟩ : ∃ N, N = s.size := ⟨_, rfl⟩
  have hsN : s.size = N := hN.symm
  rw [hsN] at hx2
  have hNm : N ≤ 300000 := by omega
  have hNl : N = l.length := by omega
  have HX1 := Lib.hid hx1; clear hx1
  have HX2 := Lib.hid hx2; clear hx2
  have HLA := Lib.hid hla; clear hla
  have HE := Lib.hid hE; clear hE
  have HNL := Lib.hid hNl
  have HL := Lib.hid hl
  clear hsz hl hN hNl
  go_enter Tryz.func10, Tryz.ntmps10
  go_upto_if 19 with (first
    | (refine alloc_to rfl 29 rfl _ _ (allA _) ?_)
    | (go_at_call 29; refine (HLIB.out _).mono ?_; rintro e w2 ⟨rfl, hw2⟩; subst hw2)
    | fail)
  have h4 := OB.fresh w 29 (aCells A0)
  obtain ⟨w1, hw1⟩ : ∃ w1, w1 = w.alloc (.cells (aCells A0) 29) := ⟨_, rfl⟩
  rw [← hw1] at h4 ⊢
  have hz1 : w1.heap.size = w.heap.size + 1 := by rw [hw1]; simp
  have h6 := OB.fresh w1 29 (aCells A0)
  rw [hz1] at h6
  have H4 := Lib.hid h4; clear h4
  clear hw1
  obtain ⟨w2, hw2⟩ : ∃ w2, w2 = w1.alloc (.cells (aCells A0) 29) := ⟨_, rfl⟩
  rw [← hw2] at h6 ⊢
  clear hw2
  have H6 := Lib.hid h6; clear h6
  have HZ := Lib.hid hz1; clear hz1
  go_cut [1] (fun sv wx => ∃ s2 u p, stF l = some (s2, u, p) ∧ sv = .string (bs s2) ∧ Hid (OB w1 (w.heap.size + 1) 29 (aCells { A0 with user := u, pass := p }) wx))
  case first =>
    rcases HLA.out with ⟨e1, e2⟩ | ⟨i, hi, e1, e2⟩
    · subst e1
      have hst : stF l = some (l, [], []) := by unfold stF; rw [e2]
      have HST := Lib.hid hst; clear hst e2 HLA
      go_wp2_with fail
      go_meet
      case rel => exact ⟨l, [], [], HST.out, by rw [HS.out], H6.out⟩
    · subst e1
      have e3 := HX1.out i
      have e4 := HX2.out (i + 1)
      have hst : stF l = if l.drop (i + 1) = [] then none else some (l.drop (i + 1), pcB 5 (cutF (l.take i)).1, pcB 5 (cutF (l.take i)).2) := by unfold stF; rw [e2]
      have hcu := fun W (hW : Below w.heap.size w W) => scut_any (l.take i) [58] W (by rw [List.length_take]; have := HL.out; omega) (HE.out.below hW)
      rw [lcut1] at hcu
      rw [cutF1] at hst
      have hlen : (cut1 58 (l.take i)).1.length ≤ 300000 ∧ (cut1 58 (l.take i)).2.1.length ≤ 300000 := by
        have h := congrArg List.length (cut1_is 58 (l.take i))
        have hq : (cut1 58 (l.take i)).2.2 = false → (cut1 58 (l.take i)).2.1 = [] := cut1_flag 58 _
        rw [List.length_append] at h
        have := HL.out
        by_cases hf : (cut1 58 (l.take i)).2.2 = true
        · rw [if_pos hf, List.length_cons, List.length_take] at h
          omega
        · rw [if_neg hf, List.length_nil, List.length_take] at h
          rw [hq (by simpa using hf)]
          simp only [List.length_nil]
          omega
      have hin : i + 1 ≤ N := by have := HNL.out; omega
      generalize cut1 58 (l.take i) = C at hcu hst hlen
      obtain ⟨c1, c2, c3⟩ := C
      simp only at hst hlen hcu
      have hp1 := fun W => pencode_any 5 c1 W (by omega)
      have hp2 := fun W => pencode_any 5 c2 W (by omega)
      generalize l.take i = who at e3 hcu
      obtain ⟨r, hr⟩ : ∃ r, r = bs (l.drop (i + 1)) := ⟨_, rfl⟩
      have hre : r.toList = [] ↔ l.drop (i + 1) = [] := by rw [hr, toList_bs]
      rw [← hr] at e4
      have HRR := Lib.hid hr; clear hr
      generalize l.drop (i + 1) = rest at hst hre HRR
      generalize pcB 5 c1 = u at hst hp1
      generalize pcB 5 c2 = p at hst hp2
      obtain ⟨k1, hk1⟩ : ∃ k1, k1 = bs c1 := ⟨_, rfl⟩
      obtain ⟨k2, hk2⟩ : ∃ k2, k2 = bs c2 := ⟨_, rfl⟩
      have hcu2 : ∀ W, Below w.heap.size w W → Calls Tryz.prog 30 #[.string (bs who), .string ⟨#[58]⟩] W fun e w' => e = .returned (.tuple #[.string k1, .string k2, .bool c3]) ∧ Below W.heap.size W w' := by rw [hk1, hk2]; exact hcu
      rw [← hk1] at hp1
      rw [← hk2] at hp2
      clear hk1 hk2 hcu hlen
      generalize bs who = wh at e3 hcu2
      have HCU := Lib.hid hcu2; clear hcu2
      have HP1 := Lib.hid hp1; clear hp1
      have HP2 := Lib.hid hp2; clear hp2
      have HST := Lib.hid hst; clear hst e2 HLA
      have hn : ((i : Int) + 1) = ((i + 1 : Nat) : Int) := by omega
      have hwr : IntKind.i64.wrap ((i : Int) + 1) = ((i + 1 : Nat) : Int) := by rw [hn]; exact IntWalk.i64_in _ (by omega)
      have hin2 : (((i + 1 : Nat) : Int)) ≤ N := by omega
      have hii : (i : Int) ≤ N := by omega
      generalize i + 1 = i1 at e4 hwr hin hin2
      clear hn
      have HBW := Lib.hid (show ∀ W, Below w1.heap.size w1 W → Below w.heap.size w W from fun W hW => stp H4.out.bel hW)
      go_upto_region 5 with (first
        | (go_at_call 30; refine (HCU.out _ (HBW.out _ H6.out.bel)).mono ?_; rintro e w3 ⟨rfl, hb3⟩; have H63 := Lib.hid (H6.out.below hb3); clear hb3)
        | fail)
      clear H6 HCU
      go_upto_region 6 with (first
        | (go_at_call 19; refine (HP1.out _).mono ?_; rintro e w4 ⟨rfl, hb4⟩; have H64 := Lib.hid (H63.out.below hb4); clear hb4)
        | (refine put1 rfl 9 (.tmp 30) (.tmp 29) rfl w1 (w.heap.size + 1) 29 (aCells A0) H64.out 0 (S u) rfl rfl (by rw [ath_size rfl]; decide) one_info.1 rfl (aCells { A0 with user := u }) (ath_user A0 u) ?_; intro w5 i5 _ _; have H65 := Lib.hid i5; clear i5)
        | fail)
      clear H63 H64 HP1
      go_upto_region 7 with (first
        | (go_at_call 19; refine (HP2.out _).mono ?_; rintro e w6 ⟨rfl, hb6⟩; have H66 := Lib.hid (H65.out.below hb6); clear hb6)
        | (refine put1 rfl 9 (.tmp 33) (.tmp 32) rfl w1 (w.heap.size + 1) 29 (aCells { A0 with user := u }) H66.out 1 (S p) rfl rfl (by rw [ath_size rfl]; decide) one_info.1 rfl (aCells { A0 with user := u, pass := p }) (ath_pass { A0 with user := u } p) ?_; intro w7 i7 _ _; have H67 := Lib.hid i7; clear i7)
        | fail)
      clear H65 H66 HP2
      by_cases hrn : rest = []
      · have hst := HST.out
        rw [if_pos hrn] at hst
        have he := hre.mpr hrn
        have he1 : r.toList.isEmpty = true := by rw [he]; rfl
        have hR := HR.out
        rw [hst] at hR
        have HRN := Lib.hid (show R = none from hR)
        have H47 := Lib.hid (H4.out.below (H67.out.bel))
        clear hst hR hre
        go_wp2_with (first
          | (refine build_to rfl 29 #[] rfl (.agg (aCells A0)) #[] rfl bldA0 ?_)
          | (refine putA rfl (.tmp 4) (.tmp 40) rfl w w.heap.size A0 A0 H47.out rfl rfl rfl rfl ?_; intro w8 i8; have H48 := Lib.hid i8; clear i8)
          | fail)
        exact ares rfl rfl H48.out rfl (by rw [HRN.out]; rfl) (by rw [HRN.out]; rfl)
      · have hst := HST.out
        rw [if_neg hrn] at hst
        have he : ¬ r.toList = [] := fun h => hrn (hre.mp h)
        have he1 : r.toList.isEmpty = false := by simpa using he
        have HSS := Lib.hid hst
        clear hst hre
        go_wp2_with fail
        go_meet
        case rel => exact ⟨rest, u, p, HSS.out, by rw [HRR.out], H67.out⟩
  case rest =>
    obtain ⟨s2, u, p, hst, rfl, h6⟩ := hcut
    clear H6 HLA HX1 HX2 HLIB HS HNL hNm hsN
    have hl2 := st_len hst
    have HST0 := Lib.hid hst
    have hR := HR.out
    rw [hst] at hR
    replace hR : R = restF sch s2 u p := hR
    have hl3 : s2.length ≤ 300000 := by have := HL.out; omega
    rw [rest_nq] at hR
    have hco := fun W => colon_any s2 W (by omega)
    have hnq : nqF s2 = match colN false s2 with | none => some (s2, []) | some k => if s2.take k = [] then none else some (s2.take k, s2.drop (k + 1)) := rfl
    have hnl := fun n q (h : nqF s2 = some (n, q)) => nq_len h
    have hcl := fun k (h : colN false s2 = some k) => colN_lt false s2 k h
    obtain ⟨C, hC⟩ : ∃ C, C = colN false s2 := ⟨_, rfl⟩
    rw [← hC] at hnq hco hcl
    clear hC
    have HNQ := Lib.hid hnq; clear hnq
    have HNL := Lib.hid hnl; clear hnl
    have HCL := Lib.hid hcl; clear hcl
    have HRR := Lib.hid hR; clear hR hst HR
    have H6 := Lib.hid h6; clear h6
    have HL3 := Lib.hid hl3; clear hl3 hl2
    obtain ⟨s, hs⟩ : ∃ s, s = bs s2 := ⟨_, rfl⟩
    have hsz : s.size = s2.length := by rw [hs, bs_size]
    have hx1 : ∀ k, s.extract 0 k = bs (s2.take k) := fun k => by rw [hs, bs_extract, List.drop_zero, Nat.sub_zero]
    have hx2 : ∀ k, s.extract k s.size = bs (s2.drop k) := fun k => by rw [hs, bs_extract, bs_size, List.take_of_length_le (by rw [List.length_drop]; omega)]
    have HS := Lib.hid hs
    rw [← hs] at hco ⊢
    have HCO := Lib.hid hco; clear hco hs
    obtain ⟨N, hN⟩ : ∃ N, N = s.size := ⟨_, rfl⟩
    have hsN : s.size = N := hN.symm
    rw [hsN] at hx2
    have hNm : N ≤ 300000 := by have := HL3.out; omega
    have hNl : N = s2.length := by omega
    have HX1 := Lib.hid hx1; clear hx1
    have HX2 := Lib.hid hx2; clear hx2
    have HNN := Lib.hid hNl; clear hNl hN hsz
    go_upto_if 45 with (first
      | (go_at_call 31; refine (HCO.out _).mono ?_; rintro e w3 ⟨rfl, hw3⟩; subst hw3)
      | fail)
    go_cut [11, 12] (fun nv pv wx => ∃ n q, nqF s2 = some (n, q) ∧ nv = .string (bs n) ∧ pv = .string (bs q) ∧ Hid (OB w1 (w.heap.size + 1) 29 (aCells { A0 with user := u, pass := p }) wx))
    case first =>
      cases C with
      | none =>
        have HQ := Lib.hid (show nqF s2 = some (s2, []) from HNQ.out)
        have hm1 : ¬ (0 : Int) ≤ -1 := by omega
        simp only [posI]
        go_wp2_with fail
        go_meet
        case rel => exact ⟨s2, [], HQ.out, by rw [HS.out], rfl, H6.out⟩
      | some k =>
        have hlt := HCL.out k rfl
        have hnq : nqF s2 = if s2.take k = [] then none else some (s2.take k, s2.drop (k + 1)) := HNQ.out
        have e3 := HX1.out k
        have e4 := HX2.out (k + 1)
        have hn : ((k : Int) + 1) = ((k + 1 : Nat) : Int) := by omega
        have hkN : k + 1 ≤ N := by have := HNN.out; omega
        have hwr : IntKind.i64.wrap ((k : Int) + 1) = ((k + 1 : Nat) : Int) := by rw [hn]; exact IntWalk.i64_in _ (by omega)
        have hin2 : (((k + 1 : Nat) : Int)) ≤ N := by omega
        have hii : (k : Int) ≤ N := by omega
        obtain ⟨nm, hnm⟩ : ∃ nm, nm = bs (s2.take k) := ⟨_, rfl⟩
        obtain ⟨qq, hqq⟩ : ∃ qq, qq = bs (s2.drop (k + 1)) := ⟨_, rfl⟩
        have hre : nm.toList = [] ↔ s2.take k = [] := by rw [hnm, toList_bs]
        rw [← hnm] at e3
        rw [← hqq] at e4
        have HNM := Lib.hid hnm; clear hnm
        have HQQ := Lib.hid hqq; clear hqq
        generalize s2.take k = n at hnq hre HNM
        generalize s2.drop (k + 1) = q at hnq HQQ
        generalize k + 1 = k1 at e4 hwr hin2 hkN
        clear hn hlt
        have HNQ2 := Lib.hid hnq; clear hnq
        simp only [posI]
        by_cases hrn : n = []
        · have hst := HNQ2.out
          rw [if_pos hrn] at hst
          have he := hre.mpr hrn
          have he1 : nm.toList.isEmpty = true := by rw [he]; rfl
          have hR := HRR.out
          rw [hst] at hR
          have HRN := Lib.hid (show R = none from hR)
          clear hst hR hre
          go_wp2_with fail
          go_quiet (fail)
          have H62 := Lib.hid (H6.out.below (bz_drewN (n := nq) (bz_refl _)))
          have H47 := Lib.hid (H4.out.below (H62.out.bel))
          go_wp2_with (first
            | (refine build_to rfl 29 #[] rfl (.agg (aCells A0)) #[] rfl bldA0 ?_)
            | (refine putA rfl (.tmp 4) (.tmp 55) rfl w w.heap.size A0 A0 H47.out rfl rfl rfl rfl ?_; intro w8 i8; have H48 := Lib.hid i8; clear i8)
            | fail)
          exact ares rfl rfl H48.out rfl (by rw [HRN.out]; rfl) (by rw [HRN.out]; rfl)
        · have hst := HNQ2.out
          rw [if_neg hrn] at hst
          have he : ¬ nm.toList = [] := fun h => hrn (hre.mp h)
          have he1 : nm.toList.isEmpty = false := by simpa using he
          have HSS := Lib.hid hst
          clear hst hre
          go_wp2_with fail
          go_quiet (fail)
          have H62 := Lib.hid (H6.out.below (bz_drewN (n := nq) (bz_refl _)))
          go_wp2_with fail
          go_meet
          case rel => exact ⟨n, q, HSS.out, by rw [HNM.out], by rw [HQQ.out], H62.out⟩
    case rest =>
      obtain ⟨n, q, hst, rfl, rfl, h6⟩ := hcut
      clear H6 HNQ HCL HX1 HX2 HCO HS HNN hNm hsN
      have hnl := HNL.out n q hst
      have hR := HRR.out
      rw [hst] at hR
      replace hR : R = finF sch n q u p := hR
      have hl3 : n.length ≤ 300000 ∧ q.length ≤ 300000 := by have := HL3.out; omega
      have hho := fun W (hW : Below w.heap.size w W) => hparse_any n (spF sch) W (HSH.out s2 u p n q HST0.out hst) (HE.out.below hW)
      have hpo := fun W => HPO.out q W (by omega)
      unfold finF at hR
      have h8 := fun g (h : hostP n (spF sch) = some g) => (hkind_ok (hkind h)).l
      generalize spF sch = SP at *
      obtain ⟨HO, hHO⟩ : ∃ HO, HO = hostP n SP := ⟨_, rfl⟩
      obtain ⟨PO, hPO⟩ : ∃ PO, PO = apF sch q := ⟨_, rfl⟩
      rw [← hHO] at hR hho h8
      rw [← hPO] at hR hpo
      clear hHO hPO hst HNL HRR HPO hnl hl3 HL3
      obtain ⟨nb, hnb⟩ : ∃ nb, nb = bs n := ⟨_, rfl⟩
      obtain ⟨qb, hqb⟩ : ∃ qb, qb = bs q := ⟨_, rfl⟩
      rw [← hnb] at hho ⊢
      rw [← hqb] at hpo ⊢
      clear hnb hqb
      have HBW := Lib.hid (show ∀ W, Below w1.heap.size w1 W → Below w.heap.size w W from fun W hW => stp H4.out.bel hW)
      have HP := Lib.hid hpo; clear hpo
      have H6 := Lib.hid h6; clear h6
      cases HO with
      | none =>
        have HH := Lib.hid (show ∀ W, Below w.heap.size w W → Calls Tryz.prog 32 #[.string nb, .bool SP] W fun e w' => e = .returned (.tuple #[.agg (hCells H0), .bool false]) ∧ Below W.heap.size W w' from hho)
        have HR := Lib.hid (show R = none from hR)
        clear hho hR h8
        go_upto_region 17 with (first
          | (go_at_call 12; refine (HSP.out _).mono ?_; rintro e w3 ⟨rfl, hw3⟩; subst hw3)
          | (go_at_call 32; refine (HH.out _ (HBW.out _ H6.out.bel)).mono ?_; rintro e w4 ⟨rfl, hb4⟩; have H64 := Lib.hid (H6.out.below hb4); clear hb4)
          | (refine alloc_to rfl 27 rfl _ _ (allH _) ?_)
          | (refine storeH rfl (.tmp 14) (.tmp 61) rfl H0 rfl rfl rfl rfl ?_; intro W2 hh hb; have HHB := Lib.hid hh; have H65 := Lib.hid (H64.out.below hb); clear hh hb)
          | fail)
        have H47 := Lib.hid (H4.out.below (H65.out.bel))
        go_wp2_with (first
          | (refine build_to rfl 29 #[] rfl (.agg (aCells A0)) #[] rfl bldA0 ?_)
          | (refine putA rfl (.tmp 4) (.tmp 65) rfl w w.heap.size A0 A0 H47.out rfl rfl rfl rfl ?_; intro w8 i8; have H48 := Lib.hid i8; clear i8)
          | fail)
        exact ares rfl rfl H48.out rfl (by rw [HR.out]; rfl) (by rw [HR.out]; rfl)
      | some g =>
        have HH := Lib.hid (show ∀ W, Below w.heap.size w W → Calls Tryz.prog 32 #[.string nb, .bool SP] W fun e w' => e = .returned (.tuple #[.agg (hCells g), .bool true]) ∧ Below W.heap.size W w' from hho)
        have G8 := Lib.hid (h8 g rfl)
        clear hho h8
        dsimp only at hR
        go_upto_region 17 with (first
          | (go_at_call 12; refine (HSP.out _).mono ?_; rintro e w3 ⟨rfl, hw3⟩; subst hw3)
          | (go_at_call 32; refine (HH.out _ (HBW.out _ H6.out.bel)).mono ?_; rintro e w4 ⟨rfl, hb4⟩; have H64 := Lib.hid (H6.out.below hb4); clear hb4)
          | (refine alloc_to rfl 27 rfl _ _ (allH _) ?_)
          | (refine storeH rfl (.tmp 14) (.tmp 61) rfl g G8.out rfl rfl rfl ?_; intro W2 hh hb; have HHB := Lib.hid hh; have H65 := Lib.hid (H64.out.below hb); clear hh hb)
          | fail)
        clear H6 H64
        go_upto_region 20 with (first
          | (refine loadH (by rfl) (.tmp 14) rfl _ g HHB.out rfl ?_)
          | (refine putN rfl 27 (.tmp 67) (.tmp 66) rfl w1 (w.heap.size + 1) 29 (aCells { A0 with user := u, pass := p }) H65.out 2 (hstCells g) rfl rfl (by rw [ath_size rfl]; simp [hstCells, G8.out]) (by rw [host_info]; simp [hstCells, G8.out]) hst_one (aCells { A0 with user := u, pass := p, host := g }) (ath_host { A0 with user := u, pass := p } g G8.out rfl) ?_; intro w5 i5; have H66 := Lib.hid i5; clear i5)
          | fail)
        clear H65 HHB
        cases PO with
        | none =>
          have HP := Lib.hid (show ∀ W, Calls Tryz.prog 28 #[.string ss, .string qb] W fun e w' => e = .returned (.tuple #[.int .i64 0, .bool false, .bool false]) ∧ w' = W from HP.out)
          have HR := Lib.hid (show R = none from hR)
          clear hR
          go_upto_region 21 with (first
            | (go_at_call 28; refine (HP.out _).mono ?_; rintro e w6 ⟨rfl, hw6⟩; subst hw6)
            | (refine put1 rfl 3 (.tmp 75) (.tmp 72) rfl w1 (w.heap.size + 1) 29 (aCells { A0 with user := u, pass := p, host := g }) H66.out 14 (.int .i64 0) rfl rfl (by rw [ath_size G8.out]; decide) one_info.2.1 rfl (aCells { A0 with user := u, pass := p, host := g, port := 0 }) (ath_port { A0 with user := u, pass := p, host := g } 0 G8.out) ?_; intro w7 i7 _ _; have H67 := Lib.hid i7; clear i7)
            | (refine put1 rfl 4 (.tmp 76) (.tmp 73) rfl w1 (w.heap.size + 1) 29 (aCells { A0 with user := u, pass := p, host := g, port := 0 }) H67.out 13 (.bool false) rfl rfl (by rw [ath_size G8.out]; decide) one_info.2.2 rfl (aCells { A0 with user := u, pass := p, host := g, port := 0, hasPort := false }) (ath_has { A0 with user := u, pass := p, host := g, port := 0 } false G8.out) ?_; intro w8 i8 _ _; have H68 := Lib.hid i8; clear i8)
            | fail)
          have H47 := Lib.hid (H4.out.below (H68.out.bel))
          go_wp2_with (first
            | (refine build_to rfl 29 #[] rfl (.agg (aCells A0)) #[] rfl bldA0 ?_)
            | (refine putA rfl (.tmp 4) (.tmp 79) rfl w w.heap.size A0 A0 H47.out rfl rfl rfl rfl ?_; intro w8 i8; have H48 := Lib.hid i8; clear i8)
            | fail)
          exact ares rfl rfl H48.out rfl (by rw [HR.out]; rfl) (by rw [HR.out]; rfl)
        | some v =>
          obtain ⟨v, b⟩ := v
          have HP := Lib.hid (show ∀ W, Calls Tryz.prog 28 #[.string ss, .string qb] W fun e w' => e = .returned (.tuple #[.int .i64 v, .bool b, .bool true]) ∧ w' = W from HP.out)
          have HR := Lib.hid (show R = some { A0 with user := u, pass := p, host := g, port := v, hasPort := b } from hR)
          clear hR
          go_upto_region 21 with (first
            | (go_at_call 28; refine (HP.out _).mono ?_; rintro e w6 ⟨rfl, hw6⟩; subst hw6)
            | (refine put1 rfl 3 (.tmp 75) (.tmp 72) rfl w1 (w.heap.size + 1) 29 (aCells { A0 with user := u, pass := p, host := g }) H66.out 14 (.int .i64 v) rfl rfl (by rw [ath_size G8.out]; decide) one_info.2.1 rfl (aCells { A0 with user := u, pass := p, host := g, port := v }) (ath_port { A0 with user := u, pass := p, host := g } v G8.out) ?_; intro w7 i7 _ _; have H67 := Lib.hid i7; clear i7)
            | (refine put1 rfl 4 (.tmp 76) (.tmp 73) rfl w1 (w.heap.size + 1) 29 (aCells { A0 with user := u, pass := p, host := g, port := v }) H67.out 13 (.bool b) rfl rfl (by rw [ath_size G8.out]; decide) one_info.2.2 rfl (aCells { A0 with user := u, pass := p, host := g, port := v, hasPort := b }) (ath_has { A0 with user := u, pass := p, host := g, port := v } b G8.out) ?_; intro w8 i8 _ _; have H68 := Lib.hid i8; clear i8)
            | fail)
          obtain ⟨A1, hA1⟩ : ∃ A1 : Ath, A1 = { A0 with user := u, pass := p, host := g, port := v, hasPort := b } := ⟨_, rfl⟩
          have h18 : A1.host.six.length = 8 := by rw [hA1]; exact G8.out
          rw [← hA1] at H68
          have HR2 := Lib.hid (show R = some A1 by rw [hA1]; exact HR.out)
          clear hA1 HR
          have H18 := Lib.hid h18; clear h18
          have H47 := Lib.hid (H4.out.below (H68.out.bel))
          go_wp2_with (first
            | (refine getN rfl 29 (.tmp 6) rfl w1 (w.heap.size + 1) 29 (aCells A1) H68.out _ rfl Tryz.underlying29 rfl (by rw [ath_size H18.out]; exact ath_info) ?_)
            | (refine putA rfl (.tmp 4) (.tmp 80) rfl w w.heap.size A0 A1 H47.out rfl H18.out rfl rfl ?_; intro w8 i8; have H48 := Lib.hid i8; clear i8)
            | fail)
          exact ares rfl rfl H48.out H18.out (by rw [HR2.out]; rfl) (by rw [HR2.out]; rfl)
end Go.Proofs.YtjgenpooedkfmaaGreatDoor

/- Kit of the walks of layer 15's statements: structs in blocks, compared. -/
namespace Go.Proofs.YtjgenpooedkfmaaGreatDoor
open Go.RowKit
set_option maxRecDepth 10000

/-- cells of type T in a block -/
structure CB (W : World) (b : Nat) (T : TypeId) (cs : Array Value) : Prop where
  a : W.heap[b]? = some (.cells cs T (0, 0))
section
variable {W W' : World} {b : Nat} {T : TypeId} {cs : Array Value}
theorem CB.lt (i : CB W b T cs) : b < W.heap.size := (Array.getElem?_eq_some_iff.1 i.a).1
theorem CB.keep (i : CB W b T cs) (hb : Below W.heap.size W W') : CB W' b T cs := ⟨(hb.block b i.lt).trans i.a⟩
theorem CB.new (W : World) (T : TypeId) (cs : Array Value) : CB (W.alloc (.cells cs T)) W.heap.size T cs := ⟨heap_alloc_new W _⟩
theorem CB.cell (i : CB W b T cs) (j : Nat) : W.cell? ⟨b, j, none⟩ = cs[j]? := by simp [World.cell?, i.a]
theorem CB.cell_is (i : CB W b T cs) {j : Nat} {v : Value} (h : cs[j]? = some v) : W.cell? ⟨b, j, none⟩ = some v := (i.cell j).trans h
theorem CB.range (i : CB W b T cs) {o : Nat} {vs : List Value} (h : ∀ j v, vs[j]? = some v → cs[o + j]? = some v) : W.rangeAt b o vs := fun j v hj => i.cell_is (h j v hj)
theorem CB.load {P : Program} (i : CB W b T cs) (ty : TypeId) (d : TypeDesc) (hu : P.underlying ty = some d) (hd : (match d with | .struct _ | .array _ _ => true | _ => false) = true) (hi : (P.info? ty).map (·.size) = some cs.size) : (loadVar ty ⟨b, 0, none⟩).run P W = .ok (.agg cs) W :=
  run_loadVar_row (P := P) W b T ty cs (0, 0) d i.a hu hd hi
end
section
variable {P : Program} {ops : Array Oper} {rest : List Oper} {o : Oper} {a : Act} {w : World} {Q : Exit → Act → World → Prop}
/-- a store of a whole into the block that has just been made -/
theorem storeC {W : World} (hg : o.guard = none) (T : TypeId) (x y : Operand) (ho : o.op = .store T x y) (cs old : Array Value) (hi : (P.info? T).map (·.size) = some cs.size) (hold : old.size = cs.size) (h1 : cs.all (·.oneCell') = true)
    (hW : W = w.alloc (.cells old T)) (hx : a.eval x = .pointer (some ⟨w.heap.size, 0, none⟩)) (hy : a.eval y = .agg cs)
    (k : ∀ w', CB w' w.heap.size T cs → Below w.heap.size w w' → wpList P ops Q rest (a.put o.dst undef) w') : wpList P ops Q (o :: rest) a W := by
  subst hW
  exact store_new hg T x y ho cs old T hx hy hi hold h1 (k _ (CB.new w T cs) ((Below.refl _ _).alloc (Nat.le_refl _) _))
theorem loadC_exec (T : TypeId) (x : Operand) (ho : o.op = .load T x) (b : Nat) (cs : Array Value) (d : TypeDesc) (hu : P.underlying T = some d) (hd : (match d with | .struct _ | .array _ _ => true | _ => false) = true) (hi : (P.info? T).map (·.size) = some cs.size)
    (hx : a.eval x = .pointer (some ⟨b, 0, none⟩)) (i : CB w b T cs) : (execOp a.eval o).run P w = .ok (.value (.agg cs)) w := by
  have e := i.load (P := P) T d hu hd hi
  unfold execOp
  simp only [ho, hx, Instr.loadAt, Instr.sureAddr, Sem.run_bind, Sem.run_pure, Result.andThen_ok, e]
theorem loadC (hg : Region.wanted o (yielded ops a.tmps) = true) (T : TypeId) (x : Operand) (ho : o.op = .load T x) (b : Nat) (cs : Array Value) (d : TypeDesc) (hu : P.underlying T = some d) (hd : (match d with | .struct _ | .array _ _ => true | _ => false) = true) (hi : (P.info? T).map (·.size) = some cs.size)
    (hx : a.eval x = .pointer (some ⟨b, 0, none⟩)) (i : CB w b T cs) (k : wpList P ops Q rest (a.put o.dst (.agg cs)) w) : wpList P ops Q (o :: rest) a w :=
  val_w hg (.agg cs) (loadC_exec T x ho b cs d hu hd hi hx i) k
/-- a struct inside a block is read -/
theorem loadM_exec (T : TypeId) (x : Operand) (ho : o.op = .load T x) (b k : Nat) (vs : List Value) (d : TypeDesc) (hu : P.underlying T = some d) (hd : d.isRow = true) (hi : (P.info? T).map (·.size) = some vs.length)
    (hx : a.eval x = .pointer (some ⟨b, k, none⟩)) (hr : w.rangeAt b k vs) : (execOp a.eval o).run P w = .ok (.value (.agg vs.toArray)) w := by
  have e := run_loadVar_mid (P := P) w b k T vs d hr hu hd hi
  unfold execOp
  simp only [ho, hx, Instr.loadAt, Instr.sureAddr, Sem.run_bind, Sem.run_pure, Result.andThen_ok, e]
/-- a single cell is read -/
theorem load1_exec (T : TypeId) (x : Operand) (ho : o.op = .load T x) (b k : Nat) (v : Value) (d : TypeDesc) (hu : P.underlying T = some d) (hd : (match d with | .struct _ | .array _ _ => true | _ => false) = false)
    (hx : a.eval x = .pointer (some ⟨b, k, none⟩)) (hc : w.cell? ⟨b, k, none⟩ = some v) : (execOp a.eval o).run P w = .ok (.value v) w := by
  have hagg : (isAgg T).run P w = .ok false w := by
    unfold isAgg
    rw [Sem.run_bind, run_underlying hu w]
    cases d <;> simp_all
  unfold execOp
  simp only [ho, hx, Instr.loadAt, Instr.sureAddr, Sem.run_bind, Sem.run_pure, Result.andThen_ok]
  have hl : (loadVar T ⟨b, k, none⟩).run P w = .ok v w := by simp [loadVar, Sem.run_bind, hagg, hc]
  rw [hl]
  rfl
end
section
variable {ops : Array Oper} {rest : List Oper} {o : Oper} {a : Act} {w : World} {Q : Exit → Act → World → Prop}
/-- an Auth is stored into the block that has just been made -/
theorem storeA {W : World} (hg : o.guard = none) (x y : Operand) (ho : o.op = .store 29 x y) (h : Ath) (hl : h.host.six.length = 8) (hW : W = w.alloc (.cells (aCells A0) 29)) (hx : a.eval x = .pointer (some ⟨w.heap.size, 0, none⟩)) (hy : a.eval y = .agg (aCells h))
    (k : ∀ w', CB w' w.heap.size 29 (aCells h) → Below w.heap.size w w' → wpList Tryz.prog ops Q rest (a.put o.dst undef) w') : wpList Tryz.prog ops Q (o :: rest) a W :=
  storeC hg _ x y ho (aCells h) (aCells A0) (by rw [ath_size hl]; exact ath_info) (by rw [ath_size hl]; rfl) (all_oneCell_toArray ath_one) hW hx hy k
end
theorem ath_six {sch l : Bytes} : ((authF sch l).getD A0).host.six.length = 8 := by
  cases h : authF sch l with
  | none => rfl
  | some a =>
    obtain ⟨⟨n, hh, _⟩, _⟩ := auth_ok h
    exact (hkind_ok (hkind hh)).l
end Go.Proofs.YtjgenpooedkfmaaGreatDoor

/- Addresses in blocks of the call's own: their cells, one by one. -/
namespace Go.Proofs.YtjgenpooedkfmaaGreatDoor
open Go.RowKit
set_option maxRecDepth 10000

abbrev uCells (pv : Value) (u : Url) : Array Value := (urlCells pv u).toArray
abbrev nilV : Value := .slice none 0 0
theorem u_info : (Tryz.prog.info? 37).map (·.size) = some 23 := by kernel_rfl
theorem u_len {pv : Value} {u : Url} (h : u.host.six.length = 8) : (urlCells pv u).length = 23 := by simp [urlCells, hstCells, h]
theorem u_size {pv : Value} {u : Url} (h : u.host.six.length = 8) : (uCells pv u).size = 23 := by rw [List.size_toArray, u_len h]
theorem u_one {pv : Value} {u : Url} (h1 : pv.oneCell' = true) : ∀ v ∈ urlCells pv u, v.oneCell' = true := by
  intro v hv
  simp only [urlCells, List.mem_append, List.mem_cons, List.not_mem_nil, or_false] at hv
  rcases hv with ((e | e | e) | e) | e | e | e | e | e | e | e | e | e
  all_goals first | exact hst_one v e | (rw [e]; first | rfl | exact h1)
theorem allUrl (w : World) : (Instr.alloc 37 true (Value.tuple #[])).run Tryz.prog w = .ok (.pointer (some ⟨w.heap.size, 0, none⟩)) (w.alloc (.cells (uCells nilV U0) 37)) := by kernel_rfl
theorem bldUrl0 : ∀ w, (Instr.build 37 #[]).run Tryz.prog w = .ok (.agg (uCells nilV U0)) w := fun w => by kernel_rfl
/-- the cells of an address, each by its place -/
structure UAt (cs : Array Value) (pv : Value) (u : Url) : Prop where
  sch : cs[0]? = some (S u.sch)
  usr : cs[1]? = some (S u.usr)
  pas : cs[2]? = some (S u.pas)
  kind : cs[3]? = some (.int .i64 u.host.kind)
  name : cs[4]? = some (S u.host.name)
  hasPort : cs[14]? = some (.bool u.hasPort)
  port : cs[15]? = some (.int .i64 u.port)
  opq : cs[16]? = some (.bool u.opq)
  flat : cs[17]? = some (S u.flat)
  path : cs[18]? = some pv
  hasQ : cs[19]? = some (.bool u.hasQ)
  q : cs[20]? = some (S u.q)
  hasF : cs[21]? = some (.bool u.hasF)
  f : cs[22]? = some (S u.f)
  host : ∀ j v, (hstCells u.host)[j]? = some v → cs[3 + j]? = some v
theorem uAt (pv : Value) (u : Url) (h : u.host.six.length = 8) : UAt (uCells pv u) pv u := by
  have hh : ∀ j v, (hstCells u.host)[j]? = some v → (uCells pv u)[3 + j]? = some v := by
    intro j v hj
    have hl := (List.getElem?_eq_some_iff.1 hj).1
    rw [List.getElem?_toArray]
    unfold urlCells
    rw [List.append_assoc, List.getElem?_append_right (by simp), List.getElem?_append_left (by simp; omega)]
    simpa using hj
  obtain ⟨sch, usr, pas, ⟨hk, hn, hf, six⟩, a1, a2, a3, a4, a5, a6, a7, a8, a9⟩ := u
  simp only at h
  obtain ⟨a, b, c, d, e, f, g, i, rfl⟩ := eight h
  exact ⟨rfl, rfl, rfl, rfl, rfl, rfl, rfl, rfl, rfl, rfl, rfl, rfl, rfl, rfl, hh⟩
/-- a field put: the cells of the address turned -/
structure UPut (pv : Value) (u : Url) : Prop where
  usr : ∀ x, (uCells pv u).setIfInBounds 1 (S x) = uCells pv { u with usr := x }
  pas : ∀ x, (uCells pv u).setIfInBounds 2 (S x) = uCells pv { u with pas := x }
  kind : ∀ k, (uCells pv u).setIfInBounds 3 (.int .i64 k) = uCells pv { u with host := { u.host with kind := k } }
  hasPort : ∀ x, (uCells pv u).setIfInBounds 14 (.bool x) = uCells pv { u with hasPort := x }
  port : ∀ x, (uCells pv u).setIfInBounds 15 (.int .i64 x) = uCells pv { u with port := x }
  opq : ∀ x, (uCells pv u).setIfInBounds 16 (.bool x) = uCells pv { u with opq := x }
  flat : ∀ x, (uCells pv u).setIfInBounds 17 (S x) = uCells pv { u with flat := x }
  path : ∀ v l, (uCells pv u).setIfInBounds 18 v = uCells v { u with path := l }
  hasQ : ∀ x, (uCells pv u).setIfInBounds 19 (.bool x) = uCells pv { u with hasQ := x }
  q : ∀ x, (uCells pv u).setIfInBounds 20 (S x) = uCells pv { u with q := x }
  hasF : ∀ x, (uCells pv u).setIfInBounds 21 (.bool x) = uCells pv { u with hasF := x }
  f : ∀ x, (uCells pv u).setIfInBounds 22 (S x) = uCells pv { u with f := x }
theorem uPut (pv : Value) (u : Url) (h : u.host.six.length = 8) : UPut pv u := by
  obtain ⟨sch, usr, pas, ⟨hk, hn, hf, six⟩, a1, a2, a3, a4, a5, a6, a7, a8, a9⟩ := u
  simp only at h
  obtain ⟨a, b, c, d, e, f, g, i, rfl⟩ := eight h
  exact ⟨fun _ => rfl, fun _ => rfl, fun _ => rfl, fun _ => rfl, fun _ => rfl, fun _ => rfl, fun _ => rfl, fun _ _ => rfl, fun _ => rfl, fun _ => rfl, fun _ => rfl, fun _ => rfl⟩
theorem u_host (pv : Value) (u : Url) (g : Hst) (g8 : g.six.length = 8) (h8 : u.host.six.length = 8) : putC (uCells pv u) 3 (hstCells g) = uCells pv { u with host := g } :=
  putC_mid (hstCells g) [S u.sch, S u.usr, S u.pas] (hstCells u.host) [.bool u.hasPort, .int .i64 u.port, .bool u.opq, S u.flat, pv, .bool u.hasQ, S u.q, .bool u.hasF, S u.f] (by simp [hstCells, g8, h8])
section
variable {ops : Array Oper} {rest : List Oper} {o : Oper} {a : Act} {w : World} {Q : Exit → Act → World → Prop}
/-- an address is stored into the block that has just been made -/
theorem storeUrl {W : World} (hg : o.guard = none) (x y : Operand) (ho : o.op = .store 37 x y) (pv : Value) (u : Url) (hl : u.host.six.length = 8) (h1 : pv.oneCell' = true) (hW : W = w.alloc (.cells (uCells nilV U0) 37)) (hx : a.eval x = .pointer (some ⟨w.heap.size, 0, none⟩)) (hy : a.eval y = .agg (uCells pv u))
    (k : ∀ w', CB w' w.heap.size 37 (uCells pv u) → Below w.heap.size w w' → wpList Tryz.prog ops Q rest (a.put o.dst undef) w') : wpList Tryz.prog ops Q (o :: rest) a W :=
  storeC hg _ x y ho (uCells pv u) (uCells nilV U0) (by rw [u_size hl]; exact u_info) (by rw [u_size hl]; rfl) (all_oneCell_toArray (u_one h1)) hW hx hy k
theorem loadUrl_exec (x : Operand) (ho : o.op = .load 37 x) (b : Nat) (pv : Value) (u : Url) (hl : u.host.six.length = 8) (hx : a.eval x = .pointer (some ⟨b, 0, none⟩)) (i : CB w b 37 (uCells pv u)) : (execOp a.eval o).run Tryz.prog w = .ok (.value (.agg (uCells pv u))) w :=
  loadC_exec _ x ho b (uCells pv u) _ Tryz.underlying37 rfl (by rw [u_size hl]; exact u_info) hx i
theorem loadUrl (hg : Region.wanted o (yielded ops a.tmps) = true) (x : Operand) (ho : o.op = .load 37 x) (b : Nat) (pv : Value) (u : Url) (hl : u.host.six.length = 8) (hx : a.eval x = .pointer (some ⟨b, 0, none⟩)) (i : CB w b 37 (uCells pv u)) (k : wpList Tryz.prog ops Q rest (a.put o.dst (.agg (uCells pv u))) w) : wpList Tryz.prog ops Q (o :: rest) a w :=
  val_w hg _ (loadUrl_exec x ho b pv u hl hx i) k
end
end Go.Proofs.YtjgenpooedkfmaaGreatDoor

/- ascii.Letter, ascii.Trim, ascii.Tight, parts.Clean, parts.named: what they answer. -/
namespace Go.Proofs.YtjgenpooedkfmaaGreatDoor
open Go.RowKit
set_option maxRecDepth 10000

set_option maxHeartbeats 1000000 in
theorem letter_any (c : Int) (w : World) : Calls Tryz.prog 61 #[.int .u8 c] w fun e w' => e = .returned (.bool (letF c)) ∧ w' = w := by
  have h : c < 65 ∨ (65 ≤ c ∧ c ≤ 90) ∨ (90 < c ∧ c < 97) ∨ (97 ≤ c ∧ c ≤ 122) ∨ 122 < c := by omega
  rcases h with h | ⟨h1, h2⟩ | ⟨h1, h2⟩ | ⟨h1, h2⟩ | h
  all_goals
    go_enter Tryz.func61, Tryz.ntmps61
    go_wp2_with fail
    all_goals
      go_ret
      refine ⟨ret1_bool ?_, rfl⟩
      unfold letF
      first
        | exact (decide_eq_true (p := (65 ≤ c ∧ c ≤ 90) ∨ (97 ≤ c ∧ c ≤ 122)) (by omega)).symm
        | exact (decide_eq_false (p := (65 ≤ c ∧ c ≤ 90) ∨ (97 ≤ c ∧ c ≤ 122)) (by omega)).symm
        | (rw [decide_eq_false (p := (65 ≤ c ∧ c ≤ 90) ∨ (97 ≤ c ∧ c ≤ 122)) (by omega)]; simp; omega)
set_option maxHeartbeats 1000000 in
theorem trim1_any (c : Int) (w : World) : Calls Tryz.prog 63 #[.int .u8 c] w fun e w' => e = .returned (.bool (decide (c ≤ 32))) ∧ w' = w := by
  go_enter Tryz.func63, Tryz.ntmps63
  go_wp2_with fail
  go_ret
  exact ⟨rfl, rfl⟩
def rtF (s : Bytes) : Bytes := (s.reverse.dropWhile le32).reverse
theorem trim_rt (s : Bytes) : trimF s = rtF (s.dropWhile le32) := rfl
theorem rt_snoc (s : Bytes) (c : UInt8) : rtF (s ++ [c]) = if le32 c = true then rtF s else s ++ [c] := by
  unfold rtF
  rw [List.reverse_append]
  show (List.dropWhile le32 (c :: s.reverse)).reverse = _
  cases h : le32 c with
  | true => rw [List.dropWhile_cons_of_pos h]; rfl
  | false => rw [List.dropWhile_cons_of_neg (by simp [h])]; simp
theorem rt_at {s : Bytes} {k : Nat} (h : s.length = k + 1) : rtF s = if b2 (s[k]'(by omega)) ≤ 32 then rtF (s.take k) else s := by
  have e : s = s.take k ++ [s[k]'(by omega)] := by
    rw [← List.take_succ_eq_append_getElem (by omega), List.take_of_length_le (by omega)]
  have hr := rt_snoc (s.take k) (s[k]'(by omega))
  rw [← e] at hr
  rw [hr]
  unfold le32
  by_cases hc : b2 (s[k]'(by omega)) ≤ 32
  · rw [if_pos hc, if_pos (by simpa using hc)]
  · rw [if_neg hc, if_neg (by simpa using hc)]
theorem lead_at {s : Bytes} (h : 0 < s.length) : s.dropWhile le32 = if b2 s[0] ≤ 32 then (s.drop 1).dropWhile le32 else s := by
  cases s with
  | nil => cases h
  | cons c t =>
    show List.dropWhile le32 (c :: t) = if b2 c ≤ 32 then t.dropWhile le32 else c :: t
    by_cases hc : b2 c ≤ 32
    · rw [if_pos hc, List.dropWhile_cons_of_pos (by unfold le32; simpa using hc)]
    · rw [if_neg hc, List.dropWhile_cons_of_neg (by unfold le32; simpa using hc)]
theorem ext_all (t : Bytes) (k n : Nat) (h : n = t.length) : (bs t).extract k n = bs (t.drop k) := by
  rw [bs_extract, h, List.take_of_length_le (by rw [List.length_drop]; omega)]
theorem ext_to (t : Bytes) (k : Nat) : (bs t).extract 0 k = bs (t.take k) := by
  rw [bs_extract, List.drop_zero, Nat.sub_zero]
set_option maxHeartbeats 8000000 in
theorem without_any (l : Bytes) (w : World) (hl : l.length ≤ 1000000) : Calls Tryz.prog 62 #[.string (bs l), .func (Fn.func 63) #[] #[]] w fun e w' => e = .returned (S (trimF l)) ∧ w' = w := by
  rw [trim_rt]
  obtain ⟨L, hL⟩ : ∃ L, L = l.dropWhile le32 := ⟨_, rfl⟩
  have hLl : L.length ≤ l.length := by
    obtain ⟨a, ha⟩ := dropW_suffix le32 l
    have := congrArg List.length ha
    rw [List.length_append, ← hL] at this
    omega
  rw [← hL]
  have HL := Lib.hid hL; clear hL
  have HT1 := Lib.hid (fun c W => trim1_any c W)
  go_enter Tryz.func62, Tryz.ntmps62
  go_wp2_with fail
  go_loopw [0] (fun sv wr => ∃ t : Bytes, sv = .string (bs t) ∧ t.length ≤ 1000000 ∧ Hid (L = t.dropWhile le32) ∧ w = wr) (fun sv _ => lenS sv)
  case atStart => exact ⟨l, rfl, hl, HL.out, rfl⟩
  case round =>
    obtain ⟨t, rfl, htl, ht, rfl⟩ := hrel
    obtain ⟨s, hs⟩ : ∃ s, s = bs t := ⟨_, rfl⟩
    have hsz : s.size = t.length := by rw [hs, bs_size]
    have hse : s.toList = t := by rw [hs, toList_bs]
    by_cases hn : t = []
    · have he : s.toList = [] := by rw [hse, hn]
      have he1 : s.toList.isEmpty = true := by rw [he]; rfl
      have hLn : L = [] := by rw [ht.out, hn]; rfl
      rw [← hs]
      have HS := Lib.hid (show s = bs (rtF L) by rw [hs, hn, hLn]; rfl)
      clear ht hse hn hs hsz
      go_wp2_with fail
      obtain ⟨w2, hw2⟩ : ∃ w2, w2 = w := ⟨_, rfl⟩
      have HW := Lib.hid hw2
      rw [← hw2]
      clear hw2
      go_loopw [0] (fun sv wr => sv = .string s ∧ w2 = wr) (fun sv _ => lenS sv)
      case atStart => exact ⟨rfl, rfl⟩
      case round =>
        obtain ⟨rfl, rfl⟩ := hrel
        go_wp2_with fail
        go_ret
        exact ⟨by rw [HS.out]; rfl, HW.out⟩
    · have he : ¬ s.toList = [] := by rw [hse]; exact hn
      have he1 : s.toList.isEmpty = false := by simpa using he
      have hpos : 0 < t.length := List.length_pos_iff.mpr hn
      have h0s : 0 < s.size := by omega
      have hx : ((s[0]'h0s).toNat : Int) = b2 t[0] := str_at hs h0s hpos
      have hat := lead_at hpos
      have hex : s.extract 1 s.size = bs (t.drop 1) := by rw [hs]; exact ext_all t 1 _ (bs_size t)
      obtain ⟨N, hN⟩ : ∃ N, N = s.size := ⟨_, rfl⟩
      have hsN : s.size = N := hN.symm
      rw [hsN] at hex h0s
      have hNi : (1 : Int) ≤ N := by omega
      have h0i : (0 : Int) < N := by omega
      have hNt : N = t.length := by omega
      rw [← hs]
      obtain ⟨X, hX⟩ : ∃ X, X = b2 t[0] := ⟨_, rfl⟩
      rw [← hX] at hx hat
      by_cases hc : X ≤ 32
      · rw [if_pos hc] at hat
        have hnx : L = (t.drop 1).dropWhile le32 := by rw [ht.out, hat]
        have hrl : (t.drop 1).length + 1 = N ∧ N ≤ 1000000 := by rw [List.length_drop]; omega
        generalize t.drop 1 = r at hnx hrl hex
        have HNX := Lib.hid hnx
        have HRL := Lib.hid hrl
        clear hnx hrl
        clear ht hat hX hse hn hs hsz hN hpos hNt htl
        go_wp2_with (first | (go_at_call 63; refine (HT1.out _ _).mono ?_; rintro e w3 ⟨rfl, hw3⟩; subst hw3) | fail)
        go_roundw
        case rel => exact ⟨r, rfl, by have := HRL.out; omega, HNX.out, by first | rfl | trivial⟩
        case measure =>
          have := HRL.out
          show (bs r).size < s.size
          rw [bs_size, hsN]
          omega
      · rw [if_neg hc] at hat
        have hLt : L = t := ht.out.trans hat
        have HRT := Lib.hid (show rtF L = rtF t by rw [hLt])
        have HSS := Lib.hid hs
        have HT := Lib.hid htl
        clear ht hat hX hse hn hsz hN hpos hNt htl hex hs hLt HL
        go_wp2_with (first | (go_at_call 63; refine (HT1.out _ _).mono ?_; rintro e w3 ⟨rfl, hw3⟩; subst hw3) | fail)
        obtain ⟨w2, hw2⟩ : ∃ w2, w2 = w3 := ⟨_, rfl⟩
        have HW := Lib.hid hw2
        rw [← hw2]
        clear hw2
        go_loopw [0] (fun sv wr => ∃ t : Bytes, sv = .string (bs t) ∧ t.length ≤ 1000000 ∧ Hid (rtF L = rtF t) ∧ w2 = wr) (fun sv _ => lenS sv)
        case atStart => exact ⟨t, by rw [HSS.out], HT.out, HRT.out, rfl⟩
        case round =>
          clear HT HRT HSS hx hsN hNi h0i h0s he he1 hc
          obtain ⟨t, rfl, htl, ht, rfl⟩ := hrel
          obtain ⟨s, hs⟩ : ∃ s, s = bs t := ⟨_, rfl⟩
          have hsz : s.size = t.length := by rw [hs, bs_size]
          have hse : s.toList = t := by rw [hs, toList_bs]
          by_cases hn : t = []
          · have he : s.toList = [] := by rw [hse, hn]
            have he1 : s.toList.isEmpty = true := by rw [he]; rfl
            rw [← hs]
            have HS := Lib.hid (show s = bs (rtF L) by rw [hs, ht.out, hn]; rfl)
            clear ht hse hn hs hsz
            go_wp2_with fail
            go_ret
            exact ⟨by rw [HS.out]; rfl, HW.out⟩
          · have he : ¬ s.toList = [] := by rw [hse]; exact hn
            have he1 : s.toList.isEmpty = false := by simpa using he
            have hpos : 0 < t.length := List.length_pos_iff.mpr hn
            obtain ⟨M, hM⟩ : ∃ M, t.length = M + 1 := ⟨t.length - 1, by omega⟩
            have hMs : M < s.size := by omega
            have hx : ((s[M]'hMs).toNat : Int) = b2 (t[M]'(by omega)) := str_at hs hMs (by omega)
            have hat := rt_at hM
            have hex : s.extract 0 M = bs (t.take M) := by rw [hs]; exact ext_to t M
            obtain ⟨N, hN⟩ : ∃ N, N = s.size := ⟨_, rfl⟩
            have hsN : s.size = N := hN.symm
            have hNM : N = M + 1 := by omega
            have hMN : M < N := by omega
            have hwr : IntKind.i64.wrap ((N : Int) - 1) = (M : Int) := by rw [show (N : Int) - 1 = (M : Int) by omega]; exact IntWalk.i64_in _ (by omega)
            have hMi : (M : Int) < N := by omega
            have hMl : (M : Int) ≤ N := by omega
            rw [← hs]
            obtain ⟨X, hX⟩ : ∃ X, X = b2 (t[M]'(by omega)) := ⟨_, rfl⟩
            rw [← hX] at hx hat
            by_cases hc : X ≤ 32
            · rw [if_pos hc] at hat
              have hnx : rtF L = rtF (t.take M) := by rw [ht.out, hat]
              have hrl : (t.take M).length = M ∧ M < N ∧ N ≤ 1000001 := by rw [List.length_take]; omega
              generalize t.take M = r at hnx hrl hex
              have HNX := Lib.hid hnx
              have HRL := Lib.hid hrl
              clear hnx hrl
              clear ht hat hX hse hn hs hsz hN hpos htl hNM hM
              go_wp2_with (first | (go_at_call 63; refine (HT1.out _ _).mono ?_; rintro e w4 ⟨rfl, hw4⟩; subst hw4) | fail)
              go_roundw
              case rel => exact ⟨r, rfl, by have := HRL.out; omega, HNX.out, by first | rfl | trivial⟩
              case measure =>
                have := HRL.out
                show (bs r).size < s.size
                rw [bs_size, hsN]
                omega
            · rw [if_neg hc] at hat
              have HS := Lib.hid (show s = bs (rtF L) by rw [hs, ht.out, hat])
              clear ht hat hX hse hn hs hsz hN hpos htl hNM hM hex
              go_wp2_with (first | (go_at_call 63; refine (HT1.out _ _).mono ?_; rintro e w4 ⟨rfl, hw4⟩; subst hw4) | fail)
              go_ret
              exact ⟨by rw [HS.out]; rfl, HW.out⟩
end Go.Proofs.YtjgenpooedkfmaaGreatDoor

/- ascii.Trim, ascii.Tight, parts.Clean, parts.named: what they answer. -/
namespace Go.Proofs.YtjgenpooedkfmaaGreatDoor
open Go.RowKit
set_option maxRecDepth 10000

theorem trim_any (l : Bytes) (w : World) (hl : l.length ≤ 1000000) : Calls Tryz.prog 39 #[.string (bs l)] w fun e w' => e = .returned (S (trimF l)) ∧ w' = w := by
  have HW := Lib.hid (fun W => without_any l W hl)
  obtain ⟨s, hs⟩ : ∃ s, s = bs l := ⟨_, rfl⟩
  obtain ⟨t, ht⟩ : ∃ t, t = bs (trimF l) := ⟨_, rfl⟩
  have HW2 := Lib.hid (show ∀ W, Calls Tryz.prog 62 #[.string s, .func (Fn.func 63) #[] #[]] W fun e w' => e = .returned (.string t) ∧ w' = W from by rw [hs, ht]; exact HW.out)
  rw [← hs]
  have HT := Lib.hid ht
  clear hs ht HW
  go_enter Tryz.func39, Tryz.ntmps39
  go_wp2_with fail
  refine (HW2.out _).mono ?_
  rintro e w2 ⟨rfl, hw⟩
  subst hw
  go_wp2_with fail
  go_ret
  exact ⟨by rw [HT.out]; rfl, rfl⟩
theorem tight_take {l : Bytes} {k : Nat} (h : k < l.length) : tightF (l.take (k + 1)) = if b2 l[k] = 9 ∨ b2 l[k] = 10 ∨ b2 l[k] = 13 then tightF (l.take k) else tightF (l.take k) ++ [l[k]] := by
  rw [List.take_succ_eq_append_getElem h]
  unfold tightF
  rw [List.filter_append]
  have e9 : (l[k] == 9) = decide (b2 l[k] = 9) := by
    rw [Bool.eq_iff_iff, beq_iff_eq, decide_eq_true_eq]
    exact ⟨fun h => by rw [h]; decide, fun h => b2_inj (h.trans (by decide))⟩
  have e10 : (l[k] == 10) = decide (b2 l[k] = 10) := by
    rw [Bool.eq_iff_iff, beq_iff_eq, decide_eq_true_eq]
    exact ⟨fun h => by rw [h]; decide, fun h => b2_inj (h.trans (by decide))⟩
  have e13 : (l[k] == 13) = decide (b2 l[k] = 13) := by
    rw [Bool.eq_iff_iff, beq_iff_eq, decide_eq_true_eq]
    exact ⟨fun h => by rw [h]; decide, fun h => b2_inj (h.trans (by decide))⟩
  by_cases hc : b2 l[k] = 9 ∨ b2 l[k] = 10 ∨ b2 l[k] = 13
  · rw [if_pos hc, List.filter_cons_of_neg (by
      rw [e9, e10, e13]
      rcases hc with h | h | h <;> simp [h]), List.filter_nil, List.append_nil]
  · rw [if_neg hc, List.filter_cons_of_pos (by
      rw [e9, e10, e13]
      simp only [not_or] at hc
      simp [hc.1, hc.2.1, hc.2.2]), List.filter_nil]
theorem tight_len (l : Bytes) : (tightF l).length ≤ l.length := List.length_filter_le _ _
set_option maxHeartbeats 4000000 in
theorem tight_any (l : Bytes) (w : World) (hl : l.length ≤ 1000000) : Calls Tryz.prog 38 #[.string (bs l)] w fun e w' => e = .returned (S (tightF l)) ∧ Below w.heap.size w w' := by
  obtain ⟨i8, hi8, hz8, hz81, hz82⟩ := info_parts u8_info
  obtain ⟨s, hs⟩ : ∃ s, s = bs l := ⟨_, rfl⟩
  have hsz : s.size = l.length := by rw [hs, bs_size]
  have hby : ∀ k (hk : k < s.size) (hk2 : k < l.length), ((s[k]'hk).toNat : Int) = b2 l[k] := fun k hk hk2 => str_at hs hk hk2
  rw [← hs]
  clear hs
  obtain ⟨N, hN⟩ : ∃ N, N = s.size := ⟨_, rfl⟩
  have hsN : s.size = N := hN.symm
  have hNm : N ≤ 1000000 := by omega
  have HBY := Lib.hid hby; clear hby
  have HSZ := Lib.hid hsz; clear hsz hl hN
  go_enter Tryz.func38, Tryz.ntmps38
  go_wp2_with fail
  obtain ⟨w1, hr, hown0, hgr⟩ := run_makeSlice_owned (P := Tryz.prog) (w := w) w.heap.size 45 5 i8 (.int .u8 0) 1 Tryz.underlying45 hi8 hz8 hz81 .i64 .i64 N (by omega) (by rw [hz82]; omega) (Nat.le_trans hNm (by decide)) (Nat.le_refl _)
  have hb1 : Below w.heap.size w w1 := ⟨hgr.os, hgr.tape, hgr.output, hgr.size, fun k hk => hgr.block k hk (by simp)⟩
  have HO0 := Lib.hid hown0; clear hown0
  have HB1 := Lib.hid hb1; clear hb1 hgr
  rw [hr]
  clear hr
  go_wp2_with fail
  go_loopw [3, 11] (fun ov iv wr => ∃ (k : Nat), k ≤ N ∧ iv = .int .i64 k ∧ Hid (wr.ownsRow w.heap.size 5 1 ov (tightF (l.take k)).length (Lib.byteCells (tightF (l.take k)))) ∧ Hid (Below w.heap.size w wr)) (fun _ i _ => N - (intOf i).toNat)
  case atStart => exact ⟨0, by omega, by simp, HO0.out, HB1.out⟩
  case round =>
    obtain ⟨k, hk, rfl, HO, HB⟩ := hrel
    by_cases hlt : k < N
    · have hku : k < s.size := by omega
      have hkl : k < l.length := by have := HSZ.out; omega
      have hx := HBY.out k hku hkl
      have htk := tight_take hkl
      have htl := tight_len (l.take k)
      rw [List.length_take] at htl
      have hwz : w.heap.size ≤ wr.heap.size := HB.out.size
      have hbc := fun o : Bytes => (bytes_snoc o l[k]).symm
      obtain ⟨X, hX⟩ : ∃ X : Int, X = b2 l[k] := ⟨_, rfl⟩
      rw [← hX] at hx htk hbc
      clear hX
      obtain ⟨o, ho⟩ : ∃ o, o = tightF (l.take k) := ⟨_, rfl⟩
      rw [← ho] at htk htl HO
      obtain ⟨al, hal⟩ : ∃ al, al = o.length := ⟨_, rfl⟩
      have hown := HO.out
      rw [← hal] at hown htl
      have HO1 := Lib.hid hown
      clear hown HO ho
      by_cases hc : X = 9 ∨ X = 10 ∨ X = 13
      · rw [if_pos hc] at htk
        have HOK := Lib.hid (show wr.ownsRow w.heap.size 5 1 _ (tightF (l.take (k + 1))).length (Lib.byteCells (tightF (l.take (k + 1)))) by rw [htk, ← hal]; exact HO1.out)
        clear htk hal hbc htl HO1
        rcases hc with rfl | rfl | rfl
        all_goals
          go_wp2_with fail
          go_roundw
          case rel => exact ⟨k + 1, by omega, by simp, HOK.out, HB.out⟩
          case measure => simp [intOf]; omega
      · rw [if_neg hc] at htk
        have HTK := Lib.hid htk
        have HAL := Lib.hid hal
        have HBC := Lib.hid (hbc o)
        have e9 : (X == 9) = false := by simpa using fun h => hc (.inl h)
        have e10 : (X == 10) = false := by simpa using fun h => hc (.inr (.inl h))
        have e13 : (X == 13) = false := by simpa using fun h => hc (.inr (.inr h))
        clear htk hal hbc hc
        go_wp2_with (first | (at_builtin; (refine push1 rfl (.tmp 18) (.tmp 20) _ rfl w.heap.size 5 i8 (.int .u8 0) 1 Tryz.underlying45 hi8 hz8 hz81 hz82 (by decide) _ _ _ (Lib.byteCells o) rfl HO1.out (.int .u8 X) rfl rfl (by omega) (by decide) (by omega) ?_); intro v2 w2 hown2 hw2 hb2; have HO2 := Lib.hid hown2; clear hown2; have HB2 := Lib.hid hb2; clear hb2) | fail)
        go_roundw
        case rel =>
          refine ⟨k + 1, by omega, by simp, ?_, HB.out.trans HB2.out⟩
          have h := HO2.out
          rw [HTK.out, List.length_append, ← HAL.out, ← HBC.out]
          exact h
        case measure => simp [intOf]; omega
    · obtain rfl : k = N := by omega
      have htk : l.take k = l := List.take_of_length_le (by have := HSZ.out; omega)
      rw [htk] at HO
      have kc := conv_own (P := Tryz.prog) Tryz.underlying45 Tryz.underlying5 Tryz.underlying9 HO.out
      obtain ⟨t, ht⟩ : ∃ t, t = bs (tightF l) := ⟨_, rfl⟩
      rw [← ht] at kc
      have HT := Lib.hid ht
      clear HO htk ht
      go_wp2_with fail
      go_ret
      exact ⟨by rw [HT.out]; rfl, HB.out⟩
theorem trimF_len (l : Bytes) : (trimF l).length ≤ l.length := by
  rw [trim_rt]
  obtain ⟨a, ha⟩ := dropW_suffix le32 l
  have h1 := congrArg List.length ha
  rw [List.length_append] at h1
  unfold rtF
  rw [List.length_reverse]
  obtain ⟨b, hb⟩ := dropW_suffix le32 (l.dropWhile le32).reverse
  have h2 := congrArg List.length hb
  rw [List.length_append, List.length_reverse] at h2
  omega
theorem clean_any (l : Bytes) (w : World) (hl : l.length ≤ 1000000) : Calls Tryz.prog 17 #[.string (bs l)] w fun e w' => e = .returned (S (cleanF l)) ∧ Below w.heap.size w w' := by
  have h1 := fun W => trim_any l W hl
  have h2 := fun W => tight_any (trimF l) W (by have := trimF_len l; omega)
  obtain ⟨s, hs⟩ : ∃ s, s = bs l := ⟨_, rfl⟩
  obtain ⟨t, ht⟩ : ∃ t, t = bs (trimF l) := ⟨_, rfl⟩
  obtain ⟨r, hr⟩ : ∃ r, r = bs (cleanF l) := ⟨_, rfl⟩
  have H1 := Lib.hid (show ∀ W, Calls Tryz.prog 39 #[.string s] W fun e w' => e = .returned (.string t) ∧ w' = W from by rw [hs, ht]; exact h1)
  have H2 := Lib.hid (show ∀ W, Calls Tryz.prog 38 #[.string t] W fun e w' => e = .returned (.string r) ∧ Below W.heap.size W w' from by rw [ht, hr]; exact h2)
  rw [← hs]
  have HR := Lib.hid hr
  clear hs ht hr h1 h2
  go_enter Tryz.func17, Tryz.ntmps17
  go_wp2_with (first
    | (go_at_call 39; refine (H1.out _).mono ?_; rintro e w2 ⟨rfl, hw⟩; subst hw)
    | (go_at_call 38; refine (H2.out _).mono ?_; rintro e w3 ⟨rfl, hb⟩; have HB := Lib.hid hb; clear hb)
    | fail)
  go_ret
  exact ⟨by rw [HR.out]; rfl, HB.out⟩
end Go.Proofs.YtjgenpooedkfmaaGreatDoor

/- parts.named, parts.Split: what they answer. -/
namespace Go.Proofs.YtjgenpooedkfmaaGreatDoor
open Go.RowKit
set_option maxRecDepth 10000

theorem dig_schC (c : Int) : (dgt c 10 < 0) = ¬ (48 ≤ c ∧ c ≤ 57) := by
  have h := dgt10 c
  unfold dgt at *
  simp only at *
  by_cases h1 : 48 ≤ c ∧ c ≤ 57
  · rw [if_pos h1] at *
    simp [h1]
    split <;> omega
  · rw [if_neg h1] at *
    simp only [h1, not_false_eq_true, eq_iff_iff, iff_true]
    split <;> (try split) <;> (try split) <;> omega
theorem sch_at {l : Bytes} {k : Nat} (h : k < l.length) : (l.drop k).all (fun y => schC (b2 y)) = (schC (b2 l[k]) && (l.drop (k + 1)).all (fun y => schC (b2 y))) := by
  rw [List.drop_eq_getElem_cons h, List.all_cons]
set_option maxHeartbeats 8000000 in
theorem pnamed_any (l : Bytes) (w : World) (hl : l.length ≤ 1000000) : Calls Tryz.prog 36 #[.string (bs l)] w fun e w' => e = .returned (.bool (schN l)) ∧ w' = w := by
  obtain ⟨s, hs⟩ : ∃ s, s = bs l := ⟨_, rfl⟩
  have hsz : s.size = l.length := by rw [hs, bs_size]
  have hby : ∀ k (hk : k < s.size) (hk2 : k < l.length), ((s[k]'hk).toNat : Int) = b2 l[k] := fun k hk hk2 => str_at hs hk hk2
  have hemp : (s.toList = []) ↔ l = [] := by rw [hs, toList_bs]
  rw [← hs]
  clear hs
  obtain ⟨N, hN⟩ : ∃ N, N = s.size := ⟨_, rfl⟩
  have hsN : s.size = N := hN.symm
  have hNm : N ≤ 1000000 := by omega
  by_cases hnil : l = []
  · have he := hemp.mpr hnil
    have he1 : s.toList.isEmpty = true := by rw [he]; rfl
    have HR := Lib.hid (show schN l = false by rw [hnil]; rfl)
    clear hemp hby hsz hl hN hnil
    go_enter Tryz.func36, Tryz.ntmps36
    go_wp2_with fail
    go_ret
    exact ⟨by rw [HR.out]; rfl, rfl⟩
  have he : ¬ s.toList = [] := fun h => hnil (hemp.mp h)
  have he1 : s.toList.isEmpty = false := by simpa using he
  have hpos : 0 < l.length := List.length_pos_iff.mpr hnil
  have h0s : 0 < s.size := by omega
  have hx0 := hby 0 h0s hpos
  have hsn : schN l = (letF (b2 l[0]) && (l.drop 1).all fun y => schC (b2 y)) := by
    cases l with
    | nil => cases hpos
    | cons c t => rfl
  have h0N : (0 : Int) < N := by omega
  rw [hsN] at h0s
  obtain ⟨X, hX⟩ : ∃ X, X = b2 l[0] := ⟨_, rfl⟩
  rw [← hX] at hx0 hsn
  obtain ⟨R, hR⟩ : ∃ R, R = (l.drop 1).all fun y => schC (b2 y) := ⟨_, rfl⟩
  rw [← hR] at hsn
  have HLE0 := Lib.hid (fun W => letter_any X W)
  have HBY := Lib.hid hby
  have HSZ := Lib.hid hsz
  have HR := Lib.hid hR
  have HSN := Lib.hid hsn
  clear hemp hby hsz hl hN hnil hpos hX hR hsn
  cases hq : letF X with
  | false =>
    rw [hq] at HLE0 HSN
    go_enter Tryz.func36, Tryz.ntmps36
    go_wp2_with (first | (go_at_call 61; refine (HLE0.out _).mono ?_; rintro e w2 ⟨rfl, hw⟩; subst hw) | fail)
    go_ret
    exact ⟨by rw [HSN.out]; rfl, rfl⟩
  | true =>
    rw [hq] at HLE0 HSN
    go_enter Tryz.func36, Tryz.ntmps36
    go_wp2_with (first | (go_at_call 61; refine (HLE0.out _).mono ?_; rintro e w2 ⟨rfl, hw⟩; subst hw) | fail)
    obtain ⟨w3, hw3⟩ : ∃ w3, w3 = w2 := ⟨_, rfl⟩
    have HW := Lib.hid hw3
    rw [← hw3]
    clear hw3
    go_loopw [3] (fun iv wr => ∃ (k : Nat), 1 ≤ k ∧ k ≤ N ∧ iv = .int .i64 k ∧ Hid ((l.drop k).all (fun y => schC (b2 y)) = R) ∧ w3 = wr) (fun i _ => N - (intOf i).toNat)
    case atStart => exact ⟨1, by omega, by omega, by simp, HR.out.symm, rfl⟩
    case round =>
      obtain ⟨k, hk1, hk, rfl, hd, rfl⟩ := hrel
      by_cases hlt : k < N
      · have hku : k < s.size := by omega
        have hkl : k < l.length := by have := HSZ.out; omega
        have hx := HBY.out k hku hkl
        have hst := sch_at hkl
        rw [hd.out] at hst
        have hr := b2_lt l[k]
        have hle := fun W => letter_any (b2 l[k]) W
        have hda := fun W => digitA_any (b2 l[k]) 10 W hr (by omega)
        have hdg := dig_schC (b2 l[k])
        obtain ⟨Y, hY⟩ : ∃ Y, Y = b2 l[k] := ⟨_, rfl⟩
        rw [← hY] at hx hst hle hda hr hdg
        clear hY hd
        obtain ⟨D, hD⟩ : ∃ D, D = dgt Y 10 := ⟨_, rfl⟩
        rw [← hD] at hda hdg
        clear hD
        have HDA := Lib.hid hda; clear hda
        have HLE := Lib.hid hle; clear hle
        obtain ⟨T, hT⟩ : ∃ T, T = (l.drop (k + 1)).all fun y => schC (b2 y) := ⟨_, rfl⟩
        rw [← hT] at hst
        have HTT := Lib.hid hT; clear hT
        unfold schC at hst
        cases hq2 : letF Y with
        | true =>
          rw [hq2] at hst HLE
          have HST := Lib.hid (show R = T by rw [hst]; simp)
          clear hst hdg
          go_wp2_with (first | (go_at_call 61; refine (HLE.out _).mono ?_; rintro e w4 ⟨rfl, hw⟩; subst hw) | fail)
          go_roundw
          case rel => exact ⟨k + 1, by omega, by omega, by simp, (HTT.out.symm.trans HST.out.symm), by trivial⟩
          case measure => simp [intOf]; omega
        | false =>
          rw [hq2] at hst HLE
          by_cases hdig : 48 ≤ Y ∧ Y ≤ 57
          · have hD : ¬ D < 0 := by rw [hdg]; simp [hdig]
            have HST := Lib.hid (show R = T by rw [hst]; simp [hdig])
            clear hst hdg hdig
            go_wp2_with (first
              | (go_at_call 61; refine (HLE.out _).mono ?_; rintro e w4 ⟨rfl, hw⟩; subst hw)
              | (go_at_call 51; refine (HDA.out _).mono ?_; rintro e w5 ⟨rfl, rfl⟩)
              | fail)
            go_roundw
            case rel => exact ⟨k + 1, by omega, by omega, by simp, (HTT.out.symm.trans HST.out.symm), by trivial⟩
            case measure => simp [intOf]; omega
          · have hD : D < 0 := by rw [hdg]; exact hdig
            by_cases h3 : Y = 43 ∨ Y = 45 ∨ Y = 46
            · have HST := Lib.hid (show R = T by rw [hst]; rcases h3 with h | h | h <;> simp [h])
              clear hst hdg hdig
              rcases h3 with rfl | rfl | rfl
              all_goals
                go_wp2_with (first
                  | (go_at_call 61; refine (HLE.out _).mono ?_; rintro e w4 ⟨rfl, hw⟩; subst hw)
                  | (go_at_call 51; refine (HDA.out _).mono ?_; rintro e w5 ⟨rfl, rfl⟩)
                  | fail)
                go_roundw
                case rel => exact ⟨k + 1, by omega, by omega, by simp, (HTT.out.symm.trans HST.out.symm), by trivial⟩
                case measure => simp [intOf]; omega
            · have HST := Lib.hid (show R = false by rw [hst]; simp [hdig]; intro h; exact absurd h h3)
              have e1 : (Y != 43) = true := by simpa using fun h => h3 (.inl h)
              have e2 : (Y != 45) = true := by simpa using fun h => h3 (.inr (.inl h))
              have e3 : (Y != 46) = true := by simpa using fun h => h3 (.inr (.inr h))
              clear hst hdg hdig h3
              go_wp2_with (first
                | (go_at_call 61; refine (HLE.out _).mono ?_; rintro e w4 ⟨rfl, hw⟩; subst hw)
                | (go_at_call 51; refine (HDA.out _).mono ?_; rintro e w5 ⟨rfl, rfl⟩)
                | fail)
              go_ret
              exact ⟨by rw [HSN.out, HST.out]; rfl, HW.out⟩
      · obtain rfl : k = N := by omega
        have hdr : l.drop k = [] := List.drop_eq_nil_of_le (by have := HSZ.out; omega)
        have hd1 := hd.out
        rw [hdr] at hd1
        have HST := Lib.hid (show true = R from hd1); clear hd1 hd
        go_wp2_with fail
        go_ret
        exact ⟨by rw [HSN.out, ← HST.out]; rfl, HW.out⟩
end Go.Proofs.YtjgenpooedkfmaaGreatDoor

/- record.Drive, Normal, Starts, Dot, Dots; parse.slashes, unslashed: what they answer. -/
namespace Go.Proofs.YtjgenpooedkfmaaGreatDoor
open Go.RowKit
set_option maxRecDepth 10000

theorem beq_b2 (c : UInt8) (n : Nat) (h : n < 256) : (c == UInt8.ofNat n) = decide (b2 c = n) := by
  have e : b2 (UInt8.ofNat n) = n := by
    unfold b2
    rw [UInt8.toNat_ofNat']
    omega
  rw [Bool.eq_iff_iff, beq_iff_eq, decide_eq_true_eq]
  exact ⟨fun h => by rw [h, e], fun h => b2_inj (h.trans e.symm)⟩
theorem drive_two (a b : UInt8) : driveF [a, b] = (letF (b2 a) && (decide (b2 b = 58) || decide (b2 b = 124))) := by
  show (letF (b2 a) && (b == 58 || b == 124)) = _
  rw [show (b == 58) = decide (b2 b = 58) from beq_b2 b 58 (by decide), show (b == 124) = decide (b2 b = 124) from beq_b2 b 124 (by decide)]
theorem norm_two (a b : UInt8) : normF [a, b] = (letF (b2 a) && decide (b2 b = 58)) := by
  show (letF (b2 a) && b == 58) = _
  rw [show (b == 58) = decide (b2 b = 58) from beq_b2 b 58 (by decide)]
theorem two_of {l : Bytes} (h : l.length = 2) : ∃ a b, l = [a, b] := by
  match l, h with
  | [a, b], _ => exact ⟨a, b, rfl⟩
theorem drive_no {l : Bytes} (h : l.length ≠ 2) : driveF l = false ∧ normF l = false := by
  match l, h with
  | [], _ => exact ⟨rfl, rfl⟩
  | [_], _ => exact ⟨rfl, rfl⟩
  | [_, _], h => exact absurd rfl h
  | _ :: _ :: _ :: _, _ => exact ⟨rfl, rfl⟩
set_option maxHeartbeats 4000000 in
theorem drive_any (l : Bytes) (w : World) (hl : l.length ≤ 1000000) : Calls Tryz.prog 69 #[.string (bs l)] w fun e w' => e = .returned (.bool (driveF l)) ∧ w' = w := by
  obtain ⟨s, hs⟩ : ∃ s, s = bs l := ⟨_, rfl⟩
  have hsz : s.size = l.length := by rw [hs, bs_size]
  have hby : ∀ k (hk : k < s.size) (hk2 : k < l.length), ((s[k]'hk).toNat : Int) = b2 l[k] := fun k hk hk2 => str_at hs hk hk2
  rw [← hs]
  clear hs
  by_cases h2 : l.length = 2
  · obtain ⟨a, b, rfl⟩ := two_of h2
    have hsN : s.size = 2 := hsz
    have h0 : 0 < s.size := by omega
    have h1 : 1 < s.size := by omega
    have hx0 : ((s[0]'h0).toNat : Int) = b2 a := hby 0 h0 (Nat.succ_pos _)
    have hx1 : ((s[1]'h1).toNat : Int) = b2 b := hby 1 h1 (Nat.lt_succ_self 1)
    have hd := drive_two a b
    have HLE := Lib.hid (fun W => letter_any (b2 a) W)
    generalize b2 a = X at *
    generalize b2 b = Y at *
    obtain ⟨R, hR⟩ : ∃ R, R = driveF [a, b] := ⟨_, rfl⟩
    rw [← hR] at hd ⊢
    clear hby hsz h2 hR hl
    cases hq : letF X with
    | false =>
      rw [hq] at HLE hd
      have HD := Lib.hid hd; clear hd
      go_enter Tryz.func69, Tryz.ntmps69
      go_wp2_with (first | (go_at_call 61; refine (HLE.out _).mono ?_; rintro e w2 ⟨rfl, hw⟩; subst hw) | fail)
      go_ret
      exact ⟨by rw [HD.out]; rfl, rfl⟩
    | true =>
      rw [hq] at HLE hd
      by_cases h58 : Y = 58
      · have HD := Lib.hid (show R = true by rw [hd]; simp [h58]); clear hd
        subst h58
        go_enter Tryz.func69, Tryz.ntmps69
        go_wp2_with (first | (go_at_call 61; refine (HLE.out _).mono ?_; rintro e w2 ⟨rfl, hw⟩; subst hw) | fail)
        go_ret
        exact ⟨by rw [HD.out]; rfl, rfl⟩
      · have q58 : (Y == 58) = false := by simpa using h58
        by_cases h124 : Y = 124
        · have HD := Lib.hid (show R = true by rw [hd]; simp [h124]); clear hd
          subst h124
          go_enter Tryz.func69, Tryz.ntmps69
          go_wp2_with (first | (go_at_call 61; refine (HLE.out _).mono ?_; rintro e w2 ⟨rfl, hw⟩; subst hw) | fail)
          go_ret
          exact ⟨by rw [HD.out]; rfl, rfl⟩
        · have q124 : (Y == 124) = false := by simpa using h124
          have HD := Lib.hid (show R = false by rw [hd]; simp [h58, h124]); clear hd
          go_enter Tryz.func69, Tryz.ntmps69
          go_wp2_with (first | (go_at_call 61; refine (HLE.out _).mono ?_; rintro e w2 ⟨rfl, hw⟩; subst hw) | fail)
          go_ret
          exact ⟨by rw [HD.out]; rfl, rfl⟩
  · have HD := Lib.hid (drive_no h2).1
    obtain ⟨N, hN⟩ : ∃ N, N = s.size := ⟨_, rfl⟩
    have hsN : s.size = N := hN.symm
    have hn : ((N : Int) == 2) = false := by
      have : (N : Int) ≠ 2 := by omega
      simpa using this
    clear hby h2 hsz hl hN
    go_enter Tryz.func69, Tryz.ntmps69
    go_wp2_with fail
    go_ret
    exact ⟨by rw [HD.out]; rfl, rfl⟩
set_option maxHeartbeats 4000000 in
theorem normal_any (l : Bytes) (w : World) (hl : l.length ≤ 1000000) : Calls Tryz.prog 50 #[.string (bs l)] w fun e w' => e = .returned (.bool (normF l)) ∧ w' = w := by
  have hdr := fun W => drive_any l W hl
  obtain ⟨s, hs⟩ : ∃ s, s = bs l := ⟨_, rfl⟩
  have hsz : s.size = l.length := by rw [hs, bs_size]
  have hby : ∀ k (hk : k < s.size) (hk2 : k < l.length), ((s[k]'hk).toNat : Int) = b2 l[k] := fun k hk hk2 => str_at hs hk hk2
  rw [← hs] at hdr ⊢
  clear hs
  have HDR := Lib.hid hdr; clear hdr
  by_cases h2 : l.length = 2
  · obtain ⟨a, b, rfl⟩ := two_of h2
    have hsN : s.size = 2 := hsz
    have h1 : 1 < s.size := by omega
    have hx1 : ((s[1]'h1).toNat : Int) = b2 b := hby 1 h1 (Nat.lt_succ_self 1)
    have hd := drive_two a b
    have hn := norm_two a b
    rw [hd] at HDR
    generalize b2 a = X at *
    generalize b2 b = Y at *
    obtain ⟨R, hR⟩ : ∃ R, R = normF [a, b] := ⟨_, rfl⟩
    rw [← hR] at hn ⊢
    clear hby hsz h2 hR hl hd
    generalize letF X = q at *
    by_cases h58 : Y = 58
    · subst h58
      have HN := Lib.hid (show R = q by rw [hn]; simp); clear hn
      cases q
      all_goals
        go_enter Tryz.func50, Tryz.ntmps50
        go_wp2_with (first | (go_at_call 69; refine (HDR.out _).mono ?_; rintro e w2 ⟨rfl, hw⟩; subst hw) | fail)
        go_ret
        exact ⟨by rw [HN.out]; rfl, rfl⟩
    · have q58 : (Y == 58) = false := by simpa using h58
      have HN := Lib.hid (show R = false by rw [hn]; simp [h58]); clear hn
      obtain ⟨r, hr⟩ : ∃ r, r = (q && (decide (Y = 58) || decide (Y = 124))) := ⟨_, rfl⟩
      rw [← hr] at HDR
      clear hr h58
      cases r
      all_goals
        go_enter Tryz.func50, Tryz.ntmps50
        go_wp2_with (first | (go_at_call 69; refine (HDR.out _).mono ?_; rintro e w2 ⟨rfl, hw⟩; subst hw) | fail)
        go_ret
        exact ⟨by rw [HN.out]; rfl, rfl⟩
  · rw [(drive_no h2).1] at HDR
    have HN := Lib.hid (drive_no h2).2
    clear hby h2 hsz hl
    go_enter Tryz.func50, Tryz.ntmps50
    go_wp2_with (first | (go_at_call 69; refine (HDR.out _).mono ?_; rintro e w2 ⟨rfl, hw⟩; subst hw) | fail)
    go_ret
    exact ⟨by rw [HN.out]; rfl, rfl⟩
end Go.Proofs.YtjgenpooedkfmaaGreatDoor

/- record.Starts, behindPoint, Dot, Dots: what they answer. -/
namespace Go.Proofs.YtjgenpooedkfmaaGreatDoor
open Go.RowKit
set_option maxRecDepth 10000

theorem starts_no {l : Bytes} (h : l.length < 2 ∨ driveF (l.take 2) = false) : startsF l = false := by
  match l, h with
  | [], _ => rfl
  | [_], _ => rfl
  | [a, b], h =>
    rcases h with h | h
    · simp at h
    · exact h
  | a :: b :: c :: r, h =>
    rcases h with h | h
    · simp at h; omega
    · show (driveF [a, b] && _) = false
      rw [show driveF [a, b] = false from h]; rfl
theorem starts_two {l : Bytes} (h : l.length = 2) (hd : driveF (l.take 2) = true) : startsF l = true := by
  obtain ⟨a, b, rfl⟩ := two_of h
  exact hd
theorem starts_more {l : Bytes} (h : 2 < l.length) (hd : driveF (l.take 2) = true) : startsF l = amF [47, 92, 63, 35] (b2 (l[2]'h)) := by
  match l, h, hd with
  | a :: b :: c :: r, _, hd =>
    show (driveF [a, b] && (c == 47 || c == 92 || c == 63 || c == 35)) = amF [47, 92, 63, 35] (b2 c)
    rw [show driveF [a, b] = true from hd, Bool.true_and]
    have key : ∀ k : Fin 256, (UInt8.ofNat k.val == 47 || UInt8.ofNat k.val == 92 || UInt8.ofNat k.val == 63 || UInt8.ofNat k.val == 35) = amF [47, 92, 63, 35] (b2 (UInt8.ofNat k.val)) := by decide +kernel
    have := key ⟨c.toNat, c.toNat_lt⟩
    simpa using this
set_option maxHeartbeats 4000000 in
theorem starts_any (l : Bytes) (w : World) (hl : l.length ≤ 1000000) : Calls Tryz.prog 107 #[.string (bs l)] w fun e w' => e = .returned (.bool (startsF l)) ∧ w' = w := by
  have hdr := fun W => drive_any (l.take 2) W (by rw [List.length_take]; omega)
  obtain ⟨s, hs⟩ : ∃ s, s = bs l := ⟨_, rfl⟩
  have hsz : s.size = l.length := by rw [hs, bs_size]
  have hby : ∀ k (hk : k < s.size) (hk2 : k < l.length), ((s[k]'hk).toNat : Int) = b2 l[k] := fun k hk hk2 => str_at hs hk hk2
  have hex : s.extract 0 2 = bs (l.take 2) := by rw [hs]; exact ext_to l 2
  rw [← hs]
  clear hs
  obtain ⟨N, hN⟩ : ∃ N, N = s.size := ⟨_, rfl⟩
  have hsN : s.size = N := hN.symm
  have hNl : N = l.length := by omega
  obtain ⟨t, ht⟩ : ∃ t, t = bs (l.take 2) := ⟨_, rfl⟩
  rw [← ht] at hdr hex
  by_cases h2 : N < 2
  · have HR := Lib.hid (starts_no (l := l) (.inl (by omega)))
    clear hby hex hdr ht hN hsz hl hNl
    go_enter Tryz.func107, Tryz.ntmps107
    go_wp2_with fail
    go_ret
    exact ⟨by rw [HR.out]; rfl, rfl⟩
  · have h2i : (2 : Int) ≤ N := by omega
    have HDR := Lib.hid hdr; clear hdr
    cases hd : driveF (l.take 2) with
    | false =>
      rw [hd] at HDR
      have HR := Lib.hid (starts_no (l := l) (.inr hd))
      clear hby ht hN hsz hl hNl hd
      go_enter Tryz.func107, Tryz.ntmps107
      go_wp2_with (first | (go_at_call 69; refine (HDR.out _).mono ?_; rintro e w2 ⟨rfl, hw⟩; subst hw) | fail)
      go_ret
      exact ⟨by rw [HR.out]; rfl, rfl⟩
    | true =>
      rw [hd] at HDR
      by_cases hq : N = 2
      · have HR := Lib.hid (starts_two (l := l) (by omega) hd)
        have hqb : ((N : Int) == 2) = true := by rw [hq]; rfl
        clear hby ht hN hsz hl hNl hd
        subst hq
        go_enter Tryz.func107, Tryz.ntmps107
        go_wp2_with (first | (go_at_call 69; refine (HDR.out _).mono ?_; rintro e w2 ⟨rfl, hw⟩; subst hw) | fail)
        go_ret
        exact ⟨by rw [HR.out]; rfl, rfl⟩
      · have h3 : 2 < l.length := by omega
        have h3s : 2 < s.size := by omega
        have hx := hby 2 h3s h3
        have hr := starts_more h3 hd
        obtain ⟨x, hxx⟩ : ∃ x, x = l[2] := ⟨_, rfl⟩
        rw [← hxx] at hx hr
        have hib := fun W => Any.strings_IndexByte Tryz.laysIB ⟨#[47, 92, 63, 35]⟩ (b2 x) W
        rw [show (⟨#[47, 92, 63, 35]⟩ : ByteArray).data.toList = [47, 92, 63, 35] from rfl, show (b2 x).toNat.toUInt8 = x by simp [b2]] at hib
        have hib2 : ∀ W, Calls Tryz.prog 85 #[.string ⟨#[47, 92, 63, 35]⟩, .int .u8 (b2 x)] W fun e w' => e = .returned (.int .i64 (Lib.indexByte [47, 92, 63, 35] x)) ∧ w' = W := hib
        have hi := index_am [47, 92, 63, 35] x
        generalize Lib.indexByte [47, 92, 63, 35] x = I at hib2 hi
        rw [← hr] at hi
        generalize startsF l = R at hi ⊢
        generalize b2 x = X at *
        have HIB := Lib.hid hib2
        have hqb : ((N : Int) == 2) = false := by
          have : (N : Int) ≠ 2 := by omega
          simpa using this
        have h3i : (2 : Int) < N := by omega
        have h3n : 2 < N := by omega
        clear hby ht hN hsz hl hNl hd hib hib2 hr hxx
        cases R with
        | true =>
          have hI : 0 ≤ I := hi.mpr rfl
          clear hi
          go_enter Tryz.func107, Tryz.ntmps107
          go_wp2_with (first
            | (go_at_call 69; refine (HDR.out _).mono ?_; rintro e w2 ⟨rfl, hw⟩; subst hw)
            | (go_at_call 85; refine (HIB.out _).mono ?_; rintro e w3 ⟨rfl, hw⟩; subst hw)
            | fail)
          go_ret
          exact ⟨ret1_bool (by simp), rfl⟩
        | false =>
          have hI : ¬ 0 ≤ I := fun h => by have := hi.mp h; cases this
          clear hi
          go_enter Tryz.func107, Tryz.ntmps107
          go_wp2_with (first
            | (go_at_call 69; refine (HDR.out _).mono ?_; rintro e w2 ⟨rfl, hw⟩; subst hw)
            | (go_at_call 85; refine (HIB.out _).mono ?_; rintro e w3 ⟨rfl, hw⟩; subst hw)
            | fail)
          go_ret
          exact ⟨ret1_bool (by simp; omega), rfl⟩
/-! points -/
theorem low_key : ∀ k : Fin 256, (lowB (UInt8.ofNat k.val) = 37 ↔ UInt8.ofNat k.val = 37) ∧ (lowB (UInt8.ofNat k.val) = 50 ↔ UInt8.ofNat k.val = 50) ∧ (lowB (UInt8.ofNat k.val) = 101 ↔ (UInt8.ofNat k.val = 101 ∨ UInt8.ofNat k.val = 69)) := by decide +kernel
theorem low_k (c : UInt8) : (lowB c = 37 ↔ c = 37) ∧ (lowB c = 50 ↔ c = 50) ∧ (lowB c = 101 ↔ (c = 101 ∨ c = 69)) := by
  have := low_key ⟨c.toNat, c.toNat_lt⟩
  simpa using this
theorem beh_is (l : Bytes) : behF l = if l.head? = some 46 then some (l.drop 1) else if 3 ≤ l.length ∧ (l.take 3).map lowB = [37, 50, 101] then some (l.drop 3) else none := by
  match l with
  | [] => rfl
  | c :: t =>
    by_cases h46 : c = 46
    · subst h46
      rw [beh_46, if_pos (by rfl)]
      rfl
    · rw [if_neg (by simpa using h46)]
      match t with
      | [] =>
        rw [if_neg (by simp)]
        unfold behF
        dsimp only
        rw [if_neg h46]
        split
        · next h => cases h
        · rfl
      | [x] =>
        rw [if_neg (by simp)]
        unfold behF
        dsimp only
        rw [if_neg h46]
        split
        · next h => cases h
        · rfl
      | x :: y :: r =>
        have e : ((c :: x :: y :: r).take 3).map lowB = [lowB c, lowB x, lowB y] := rfl
        rw [e]
        obtain ⟨k1, _, _⟩ := low_k c
        obtain ⟨_, k2, _⟩ := low_k x
        obtain ⟨_, _, k3⟩ := low_k y
        by_cases h37 : c = 37
        · by_cases h50 : x = 50
          · subst h37; subst h50
            rw [beh_hex]
            by_cases hy : y = 101 ∨ y = 69
            · rw [if_pos hy, if_pos ⟨by simp, by rw [k1.mpr rfl, k2.mpr rfl, k3.mpr hy]⟩]
              rfl
            · rw [if_neg hy, if_neg (fun h => hy (k3.mp (by injection h.2 with _ h; injection h with _ h; injection h)))]
          · subst h37
            rw [beh_no50 h50, if_neg (fun h => h50 (k2.mp (by injection h.2 with _ h; injection h)))]
        · rw [beh_other h46 h37, if_neg (fun h => h37 (k1.mp (by injection h.2)))]
set_option maxHeartbeats 4000000 in
theorem beh_any (l : Bytes) (w : World) (hl : l.length ≤ 1000000) : Calls Tryz.prog 44 #[.string (bs l)] w fun e w' => e = .returned (.tuple #[S ((behF l).getD []), .bool (behF l).isSome]) ∧ Below w.heap.size w w' := by
  have hhp := fun W => hp_any l [46] W
  rw [show bs [46] = ⟨#[46]⟩ from rfl] at hhp
  have hp46 : Lib.hasPrefix l [46] = decide (l.head? = some 46) := by
    cases l with
    | nil => rfl
    | cons x r =>
      show ((46 == x) && true) = _
      rw [Bool.and_true, Bool.eq_iff_iff]
      simp only [beq_iff_eq, List.head?_cons, Option.some.injEq, decide_eq_true_eq]
      exact eq_comm
  rw [hp46] at hhp
  have hlow := fun W => lower_any (l.take 3) W (by unfold maxLen; rw [List.length_take]; omega)
  have hbi := beh_is l
  obtain ⟨R, hR⟩ : ∃ R, R = behF l := ⟨_, rfl⟩
  rw [← hR] at hbi ⊢
  obtain ⟨s, hs⟩ : ∃ s, s = bs l := ⟨_, rfl⟩
  have hsz : s.size = l.length := by rw [hs, bs_size]
  have hex3 : s.extract 0 3 = bs (l.take 3) := by rw [hs]; exact ext_to l 3
  have hd1 : s.extract 1 s.size = bs (l.drop 1) := by rw [hs]; exact ext_all l 1 _ (bs_size l)
  have hd3 : s.extract 3 s.size = bs (l.drop 3) := by rw [hs]; exact ext_all l 3 _ (bs_size l)
  rw [← hs] at hhp ⊢
  clear hs hp46 hR
  obtain ⟨N, hN⟩ : ∃ N, N = s.size := ⟨_, rfl⟩
  have hsN : s.size = N := hN.symm
  rw [hsN] at hd1 hd3
  have hNl : N = l.length := by omega
  obtain ⟨t, ht⟩ : ∃ t, t = bs (l.take 3) := ⟨_, rfl⟩
  rw [← ht] at hex3 hlow
  have hne : l.head? = some 46 → 1 ≤ N := fun h => by
    cases l with
    | nil => cases h
    | cons c r => rw [hNl]; simp
  rw [← hNl] at hbi
  generalize (l.take 3).map lowB = m at hbi hlow
  generalize l.drop 1 = d1 at hbi hd1
  generalize l.drop 3 = d3 at hbi hd3
  obtain ⟨q, hq⟩ : ∃ q : Prop, q = (l.head? = some 46) := ⟨_, rfl⟩
  rw [← hq] at hne
  have HHP := Lib.hid hhp
  have HLW := Lib.hid (show ∀ W, Calls Tryz.prog 37 #[.string t] W fun e w' => e = .returned (S m) ∧ Below W.heap.size W w' from hlow)
  by_cases h46 : l.head? = some 46
  · rw [if_pos h46] at hbi
    rw [decide_eq_true h46] at HHP
    have hN1 : 1 ≤ N := hne (hq ▸ h46)
    have hN1i : (1 : Int) ≤ N := by omega
    have HR := Lib.hid hbi
    clear hhp hbi hlow ht hN hsz hl hNl hq hne h46 hex3 hd3
    go_enter Tryz.func44, Tryz.ntmps44
    go_wp2_with (first | (go_at_call 55; refine (HHP.out _).mono ?_; rintro e w2 ⟨rfl, hw⟩; subst hw) | fail)
    go_ret2
    exact ⟨by rw [HR.out]; rfl, bz_refl _⟩
  · rw [if_neg h46] at hbi
    rw [decide_eq_false h46] at HHP
    clear hhp hlow ht hN hsz hl hNl hq hne h46 hd1
    by_cases h3 : 3 ≤ N
    · have h3i : (3 : Int) ≤ N := by omega
      have he := sEq m [37, 50, 101]
      by_cases hm : m = [37, 50, 101]
      · rw [if_pos ⟨h3, hm⟩] at hbi
        rw [decide_eq_true hm] at he
        have HR := Lib.hid hbi
        clear hbi hm
        rw [toList_bs, toList_bs] at he
        have he2 : ((bs m).toList == [37, 50, 101]) = true := by rw [toList_bs]; exact he
        obtain ⟨z, hz⟩ : ∃ z, z = bs m := ⟨_, rfl⟩
        rw [← hz] at he2
        replace HLW := Lib.hid (show ∀ W, Calls Tryz.prog 37 #[.string t] W fun e w' => e = .returned (.string z) ∧ Below W.heap.size W w' from by rw [hz]; exact HLW.out)
        clear hz he
        go_enter Tryz.func44, Tryz.ntmps44
        go_wp2_with (first
          | (go_at_call 55; refine (HHP.out _).mono ?_; rintro e w2 ⟨rfl, hw⟩; subst hw)
          | (go_at_call 37; refine (HLW.out _).mono ?_; rintro e w3 ⟨rfl, hb⟩; have HB := Lib.hid hb; clear hb)
          | fail)
        go_ret2
        exact ⟨by rw [HR.out]; rfl, HB.out⟩
      · rw [if_neg (fun h => hm h.2)] at hbi
        rw [decide_eq_false hm] at he
        have HR := Lib.hid hbi
        clear hbi hm
        rw [toList_bs, toList_bs] at he
        have he2 : ((bs m).toList == [37, 50, 101]) = false := by rw [toList_bs]; exact he
        obtain ⟨z, hz⟩ : ∃ z, z = bs m := ⟨_, rfl⟩
        rw [← hz] at he2
        replace HLW := Lib.hid (show ∀ W, Calls Tryz.prog 37 #[.string t] W fun e w' => e = .returned (.string z) ∧ Below W.heap.size W w' from by rw [hz]; exact HLW.out)
        clear hz he
        go_enter Tryz.func44, Tryz.ntmps44
        go_wp2_with (first
          | (go_at_call 55; refine (HHP.out _).mono ?_; rintro e w2 ⟨rfl, hw⟩; subst hw)
          | (go_at_call 37; refine (HLW.out _).mono ?_; rintro e w3 ⟨rfl, hb⟩; have HB := Lib.hid hb; clear hb)
          | fail)
        go_ret2
        exact ⟨by rw [HR.out]; rfl, HB.out⟩
    · rw [if_neg (fun h => h3 h.1)] at hbi
      have HR := Lib.hid hbi
      clear hbi
      go_enter Tryz.func44, Tryz.ntmps44
      go_wp2_with (first
        | (go_at_call 55; refine (HHP.out _).mono ?_; rintro e w2 ⟨rfl, hw⟩; subst hw)
        | fail)
      go_ret2
      exact ⟨by rw [HR.out]; rfl, bz_refl _⟩
set_option maxHeartbeats 1000000 in
theorem dot_any (l : Bytes) (w : World) (hl : l.length ≤ 1000000) : Calls Tryz.prog 21 #[.string (bs l)] w fun e w' => e = .returned (.bool (isDot l)) ∧ Below w.heap.size w w' := by
  have hb := fun W => beh_any l W hl
  obtain ⟨R, hR⟩ : ∃ R, R = isDot l := ⟨_, rfl⟩
  rw [← hR]
  unfold isDot at hR
  generalize bs l = s at *
  generalize behF l = b at *
  cases b with
  | none =>
    have HB := Lib.hid (show ∀ W, Calls Tryz.prog 44 #[.string s] W fun e w' => e = .returned (.tuple #[.string ⟨#[]⟩, .bool false]) ∧ Below W.heap.size W w' from hb)
    have HR := Lib.hid (show R = false from hR)
    clear hb hR
    go_enter Tryz.func21, Tryz.ntmps21
    go_wp2_with (first | (go_at_call 44; refine (HB.out _).mono ?_; rintro e w2 ⟨rfl, hb⟩; have HW := Lib.hid hb; clear hb) | fail)
    go_ret
    exact ⟨by rw [HR.out]; rfl, HW.out⟩
  | some r =>
    obtain ⟨z, hz⟩ : ∃ z, z = bs r := ⟨_, rfl⟩
    have HB := Lib.hid (show ∀ W, Calls Tryz.prog 44 #[.string s] W fun e w' => e = .returned (.tuple #[.string z, .bool true]) ∧ Below W.heap.size W w' from by rw [hz]; exact hb)
    have hze : z.toList = [] ↔ r = [] := by rw [hz, toList_bs]
    have hRr : R = decide (r = []) := by
      rw [hR, Bool.eq_iff_iff, decide_eq_true_eq]
      simp
    clear hb hR hz
    by_cases hn : r = []
    · have he := hze.mpr hn
      have he1 : z.toList.isEmpty = true := by rw [he]; rfl
      have HR := Lib.hid (show R = true by rw [hRr, decide_eq_true hn])
      clear hze hRr hn
      go_enter Tryz.func21, Tryz.ntmps21
      go_wp2_with (first | (go_at_call 44; refine (HB.out _).mono ?_; rintro e w2 ⟨rfl, hb⟩; have HW := Lib.hid hb; clear hb) | fail)
      go_ret
      exact ⟨by rw [HR.out]; rfl, HW.out⟩
    · have he : ¬ z.toList = [] := fun h => hn (hze.mp h)
      have he1 : z.toList.isEmpty = false := by simpa using he
      have HR := Lib.hid (show R = false by rw [hRr, decide_eq_false hn])
      clear hze hRr hn
      go_enter Tryz.func21, Tryz.ntmps21
      go_wp2_with (first | (go_at_call 44; refine (HB.out _).mono ?_; rintro e w2 ⟨rfl, hb⟩; have HW := Lib.hid hb; clear hb) | fail)
      go_ret
      exact ⟨by rw [HR.out]; rfl, HW.out⟩
theorem beh_len {l r : Bytes} (h : behF l = some r) : r.length ≤ l.length := by
  rw [beh_is] at h
  split at h
  · injection h with h
    rw [← h, List.length_drop]; omega
  · split at h
    · injection h with h
      rw [← h, List.length_drop]; omega
    · cases h
set_option maxHeartbeats 1000000 in
theorem dots_any (l : Bytes) (w : World) (hl : l.length ≤ 1000000) : Calls Tryz.prog 22 #[.string (bs l)] w fun e w' => e = .returned (.bool (isDots l)) ∧ Below w.heap.size w w' := by
  have hb := fun W => beh_any l W hl
  have hln := fun r (h : behF l = some r) => beh_len h
  obtain ⟨R, hR⟩ : ∃ R, R = isDots l := ⟨_, rfl⟩
  rw [← hR]
  unfold isDots at hR
  generalize bs l = s at *
  generalize behF l = b at *
  cases b with
  | none =>
    have HB := Lib.hid (show ∀ W, Calls Tryz.prog 44 #[.string s] W fun e w' => e = .returned (.tuple #[.string ⟨#[]⟩, .bool false]) ∧ Below W.heap.size W w' from hb)
    have HR := Lib.hid (show R = false from hR)
    clear hb hR hln
    go_enter Tryz.func22, Tryz.ntmps22
    go_wp2_with (first | (go_at_call 44; refine (HB.out _).mono ?_; rintro e w2 ⟨rfl, hb⟩; have HW := Lib.hid hb; clear hb) | fail)
    go_ret
    exact ⟨by rw [HR.out]; rfl, HW.out⟩
  | some r =>
    have hdo := fun W => dot_any r W (by have := hln r rfl; omega)
    obtain ⟨z, hz⟩ : ∃ z, z = bs r := ⟨_, rfl⟩
    have HB := Lib.hid (show ∀ W, Calls Tryz.prog 44 #[.string s] W fun e w' => e = .returned (.tuple #[.string z, .bool true]) ∧ Below W.heap.size W w' from by rw [hz]; exact hb)
    rw [← hz] at hdo
    have HD := Lib.hid hdo
    have HR := Lib.hid (show R = isDot r from hR)
    clear hb hR hz hdo hln
    generalize isDot r = q at HD HR
    go_enter Tryz.func22, Tryz.ntmps22
    go_wp2_with (first
      | (go_at_call 44; refine (HB.out _).mono ?_; rintro e w2 ⟨rfl, hb⟩; have HW := Lib.hid hb; clear hb)
      | (go_at_call 21; refine (HD.out _).mono ?_; rintro e w3 ⟨rfl, hb⟩; have HW3 := Lib.hid (stp HW.out hb); clear hb)
      | fail)
    go_ret
    exact ⟨by rw [HR.out]; rfl, HW3.out⟩
end Go.Proofs.YtjgenpooedkfmaaGreatDoor

/- parse.slashes, parse.unslashed, segment.Split: what they answer. -/
namespace Go.Proofs.YtjgenpooedkfmaaGreatDoor
open Go.RowKit
set_option maxRecDepth 10000

theorem sl_at {sp : Bool} {l : Bytes} {k : Nat} (h : k < l.length) : slN sp (l.drop k) = if slP sp l[k] = true then 1 + slN sp (l.drop (k + 1)) else 0 := by
  unfold slN
  rw [List.drop_eq_getElem_cons h]
  cases hp : slP sp l[k] with
  | true => rw [List.takeWhile_cons_of_pos hp, if_pos rfl, List.length_cons]; omega
  | false => rw [List.takeWhile_cons_of_neg (by simp [hp]), if_neg (by simp)]; rfl
theorem slN_le (sp : Bool) (l : Bytes) : slN sp l ≤ l.length := (List.takeWhile_sublist _).length_le
set_option maxHeartbeats 4000000 in
theorem slashes_any (sch l : Bytes) (w : World) (hl : l.length ≤ 1000000) : Calls Tryz.prog 105 #[.string (bs sch), .string (bs l)] w fun e w' => e = .returned (.int .i64 (slN (spF sch) l)) ∧ w' = w := by
  have hsp := fun W => special_any sch W
  generalize spF sch = sp at *
  generalize bs sch = c at *
  have HSP := Lib.hid hsp; clear hsp
  obtain ⟨R, hR⟩ : ∃ R, R = slN sp l := ⟨_, rfl⟩
  rw [← hR]
  have HR := Lib.hid hR; clear hR
  obtain ⟨s, hs⟩ : ∃ s, s = bs l := ⟨_, rfl⟩
  have hsz : s.size = l.length := by rw [hs, bs_size]
  have hby : ∀ k (hk : k < s.size) (hk2 : k < l.length), ((s[k]'hk).toNat : Int) = b2 l[k] := fun k hk hk2 => str_at hs hk hk2
  rw [← hs]
  clear hs
  obtain ⟨N, hN⟩ : ∃ N, N = s.size := ⟨_, rfl⟩
  have hsN : s.size = N := hN.symm
  have hNm : N ≤ 1000000 := by omega
  have HBY := Lib.hid hby; clear hby
  have HSZ := Lib.hid hsz; clear hsz hl hN
  go_enter Tryz.func105, Tryz.ntmps105
  go_wp2_with (first | (go_at_call 12; refine (HSP.out _).mono ?_; rintro e w2 ⟨rfl, hw⟩; subst hw) | fail)
  obtain ⟨w3, hw3⟩ : ∃ w3, w3 = w2 := ⟨_, rfl⟩
  have HW := Lib.hid hw3
  rw [← hw3]
  clear hw3
  go_loopw [6] (fun iv wr => ∃ k : Nat, k ≤ N ∧ iv = .int .i64 k ∧ Hid (k + slN sp (l.drop k) = R) ∧ w3 = wr) (fun i _ => N - (intOf i).toNat)
  case atStart => exact ⟨0, by omega, by simp, (by rw [HR.out]; show 0 + slN sp (List.drop 0 l) = _; simp), rfl⟩
  case round =>
    obtain ⟨k, hk, rfl, hd, rfl⟩ := hrel
    by_cases hlt : k < N
    · have hku : k < s.size := by omega
      have hkl : k < l.length := by have := HSZ.out; omega
      have hx := HBY.out k hku hkl
      have hst := sl_at (sp := sp) hkl
      rw [slP_b] at hst
      have hd1 := hd.out
      obtain ⟨T, hT⟩ : ∃ T, T = slN sp (l.drop (k + 1)) := ⟨_, rfl⟩
      rw [← hT] at hst
      have HT := Lib.hid hT; clear hT
      obtain ⟨X, hX⟩ : ∃ X, X = b2 l[k] := ⟨_, rfl⟩
      rw [← hX] at hx hst
      clear hX hd
      by_cases h47 : X = 47
      · subst h47
        have HN := Lib.hid (show k + 1 + T = R by rw [if_pos (by simp)] at hst; omega)
        clear hst hd1
        go_wp2_with fail
        go_roundw
        case rel => exact ⟨k + 1, by omega, by simp, (by rw [← HT.out]; exact HN.out), by trivial⟩
        case measure => simp [intOf]; omega
      · have q47 : (X == 47) = false := by simpa using h47
        cases sp with
        | false =>
          have HN := Lib.hid (show k = R by rw [if_neg (by simp [h47])] at hst; omega)
          clear hst hd1
          go_wp2_with fail
          go_ret
          exact ⟨by rw [← HN.out]; rfl, HW.out⟩
        | true =>
          by_cases h92 : X = 92
          · subst h92
            have HN := Lib.hid (show k + 1 + T = R by rw [if_pos (by simp)] at hst; omega)
            clear hst hd1
            go_wp2_with fail
            go_roundw
            case rel => exact ⟨k + 1, by omega, by simp, (by rw [← HT.out]; exact HN.out), by trivial⟩
            case measure => simp [intOf]; omega
          · have q92 : (X == 92) = false := by simpa using h92
            have HN := Lib.hid (show k = R by rw [if_neg (by simp [h47, h92])] at hst; omega)
            clear hst hd1
            go_wp2_with fail
            go_ret
            exact ⟨by rw [← HN.out]; rfl, HW.out⟩
    · obtain rfl : k = N := by omega
      have hdr : l.drop k = [] := List.drop_eq_nil_of_le (by have := HSZ.out; omega)
      have hd1 := hd.out
      rw [hdr] at hd1
      have HN := Lib.hid (show k = R from hd1); clear hd1 hd
      go_wp2_with fail
      go_ret
      exact ⟨by rw [← HN.out]; rfl, HW.out⟩
set_option maxHeartbeats 1000000 in
theorem unslashed_any (sch l : Bytes) (w : World) (hl : l.length ≤ 1000000) : Calls Tryz.prog 81 #[.string (bs sch), .string (bs l)] w fun e w' => e = .returned (S (l.drop (slN (spF sch) l))) ∧ w' = w := by
  have hsl := fun W => slashes_any sch l W hl
  have hle := slN_le (spF sch) l
  generalize slN (spF sch) l = k at *
  generalize bs sch = c at *
  obtain ⟨s, hs⟩ : ∃ s, s = bs l := ⟨_, rfl⟩
  have hsz : s.size = l.length := by rw [hs, bs_size]
  have hex : s.extract k s.size = bs (l.drop k) := by rw [hs]; exact ext_all l k _ (bs_size l)
  rw [← hs] at hsl ⊢
  clear hs
  obtain ⟨N, hN⟩ : ∃ N, N = s.size := ⟨_, rfl⟩
  have hsN : s.size = N := hN.symm
  rw [hsN] at hex
  obtain ⟨t, ht⟩ : ∃ t, t = bs (l.drop k) := ⟨_, rfl⟩
  rw [← ht] at hex
  have HT := Lib.hid ht
  have HSL := Lib.hid hsl
  have hki : (k : Int) ≤ N := by omega
  have hkn : k ≤ N := by omega
  clear hsl hsz hl hle hN ht
  go_enter Tryz.func81, Tryz.ntmps81
  go_wp2_with (first | (go_at_call 105; refine (HSL.out _).mono ?_; rintro e w2 ⟨rfl, hw⟩; subst hw) | fail)
  go_ret
  exact ⟨by rw [HT.out]; rfl, rfl⟩
/-! pieces -/
theorem segs_cut {sp : Bool} {p : Bytes} (h : ∀ y ∈ p, slP sp y = false) {c : UInt8} (hc : slP sp c = true) (t : Bytes) : segs sp (p ++ c :: t) = p :: segs sp t := by
  induction p with
  | nil => rw [List.nil_append, segs, if_pos hc]
  | cons x r ih =>
    rw [List.cons_append, segs, if_neg (by rw [h x (by simp)]; simp), ih (fun y hy => h y (by simp [hy]))]
theorem segs_len (sp : Bool) : ∀ l : Bytes, (segs sp l).length ≤ l.length + 1
  | [] => by simp [segs]
  | c :: t => by
    have := segs_len sp t
    rw [segs]
    split
    · simp; omega
    · split
      · simp
      · next h => rw [h] at this; simp at this ⊢; omega
theorem mid_mem {l : Bytes} {f k : Nat} {y : UInt8} (h : y ∈ (l.drop f).take (k - f)) : ∃ j, ∃ hj : j < l.length, f ≤ j ∧ j < k ∧ l[j] = y := by
  obtain ⟨i, hi, he⟩ := List.getElem_of_mem h
  rw [List.length_take, List.length_drop] at hi
  rw [List.getElem_take, List.getElem_drop] at he
  exact ⟨f + i, by omega, by omega, by omega, he⟩
set_option maxHeartbeats 8000000 in
theorem ssplit_any (l : Bytes) (sp : Bool) (w : World) (hl : l.length ≤ 1000000) : Calls Tryz.prog 135 #[.string (bs l), .bool sp] w (RetRow w 9 (Strs (segs sp l))) := by
  obtain ⟨i1, hi1, hz1, hz2, hz3⟩ := info_parts str_info
  obtain ⟨T, hT⟩ : ∃ T, T = segs sp l := ⟨_, rfl⟩
  rw [← hT]
  have HT := Lib.hid hT; clear hT
  obtain ⟨s, hs⟩ : ∃ s, s = bs l := ⟨_, rfl⟩
  have hsz : s.size = l.length := by rw [hs, bs_size]
  have hby : ∀ k (hk : k < s.size) (hk2 : k < l.length), ((s[k]'hk).toNat : Int) = b2 l[k] := fun k hk hk2 => str_at hs hk hk2
  have hex : ∀ f k, s.extract f k = bs ((l.drop f).take (k - f)) := fun f k => by rw [hs, bs_extract]
  rw [← hs]
  clear hs
  obtain ⟨N, hN⟩ : ∃ N, N = s.size := ⟨_, rfl⟩
  have hsN : s.size = N := hN.symm
  have hNm : N ≤ 1000000 := by omega
  have HBY := Lib.hid hby; clear hby
  have HEX := Lib.hid hex; clear hex
  have HSZ := Lib.hid hsz; clear hsz hl hN
  go_enter Tryz.func135, Tryz.ntmps135
  go_wp2_with fail
  go_loopw [5, 6, 7] (fun ov fv iv wr => ∃ (k f : Nat) (o : List Bytes), k ≤ N ∧ f ≤ k ∧ o.length ≤ k ∧ iv = .int .i64 k ∧ fv = .int .i64 f ∧ Hid (wr.ownsRow w.heap.size 9 1 ov o.length (Strs o)) ∧ Hid (o ++ segs sp (l.drop f) = T ∧ ∀ j (hj : j < l.length), f ≤ j → j < k → slP sp l[j] = false) ∧ Hid (Below w.heap.size w wr)) (fun _ _ i _ => N - (intOf i).toNat)
  case atStart => exact ⟨0, 0, [], by omega, by omega, by simp, by simp, by simp, World.ownsRow_nil _ _ _ _, ⟨by rw [HT.out]; rfl, fun j _ _ h => absurd h (Nat.not_lt_zero j)⟩, Below.refl _ _⟩
  case round =>
    obtain ⟨k, f, o, hk, hfk, hol, rfl, rfl, HO, hinv, HB⟩ := hrel
    have hwz : w.heap.size ≤ wr.heap.size := HB.out.size
    obtain ⟨al, hal⟩ : ∃ al, al = o.length := ⟨_, rfl⟩
    have ho := HO.out
    rw [← hal] at ho hol
    have HO2 := Lib.hid ho; clear ho HO
    have HAL := Lib.hid hal; clear hal
    by_cases hlt : k < N
    · have hku : k < s.size := by omega
      have hkl : k < l.length := by have := HSZ.out; omega
      have hx := HBY.out k hku hkl
      obtain ⟨hi1', hi2'⟩ := hinv.out
      have hb := @slP_b sp l[k]
      have hmiss : slP sp l[k] = false → (o ++ segs sp (l.drop f) = T ∧ ∀ j (hj : j < l.length), f ≤ j → j < k + 1 → slP sp l[j] = false) := fun h => ⟨hi1', fun j hj h1 h2 => by
        rcases Nat.lt_or_ge j k with h3 | h3
        · exact hi2' j hj h1 h3
        · obtain rfl : j = k := by omega
          exact h⟩
      obtain ⟨p, hp⟩ : ∃ p, p = (l.drop f).take (k - f) := ⟨_, rfl⟩
      have hhit : slP sp l[k] = true → ((o ++ [p]) ++ segs sp (l.drop (k + 1)) = T ∧ ∀ j (hj : j < l.length), k + 1 ≤ j → j < k + 1 → slP sp l[j] = false) := fun h => by
        refine ⟨?_, fun j _ h1 h2 => by omega⟩
        have e : l.drop f = p ++ l[k] :: l.drop (k + 1) := by
          rw [hp, ← List.drop_eq_getElem_cons hkl]
          have : l.drop k = (l.drop f).drop (k - f) := by rw [List.drop_drop]; congr 1; omega
          rw [this, List.take_append_drop]
        have hs := segs_cut (sp := sp) (p := p) (fun y hy => by
          rw [hp] at hy
          obtain ⟨j, hj, h1, h2, rfl⟩ := mid_mem hy
          exact hi2' j hj h1 h2) h (l.drop (k + 1))
        rw [← e] at hs
        rw [← hi1', hs]
        simp
      have hexp := HEX.out f k
      rw [← hp] at hexp
      have hsn := strs_snoc o p
      obtain ⟨u, hu⟩ : ∃ u, u = bs p := ⟨_, rfl⟩
      rw [← hu] at hexp hsn
      rw [hb] at hmiss hhit
      obtain ⟨X, hX⟩ : ∃ X, X = b2 l[k] := ⟨_, rfl⟩
      rw [← hX] at hx hmiss hhit
      have HMISS := Lib.hid hmiss
      have HHIT := Lib.hid hhit
      have HSN := Lib.hid hsn
      have hfs : f ≤ s.size := by omega
      have hfki : (f : Int) ≤ k := by omega
      have hkNi : (k : Int) ≤ N := by omega
      have hw1 : IntKind.i64.wrap ((k : Int) + 1) = ((k + 1 : Nat) : Int) := by rw [show (k : Int) + 1 = ((k + 1 : Nat) : Int) by omega]; exact IntWalk.i64_in _ (by omega)
      obtain ⟨K, hK⟩ : ∃ K, K = k + 1 := ⟨_, rfl⟩
      rw [← hK] at hw1
      have HK := Lib.hid hK
      clear hinv hi1' hi2' hb hmiss hhit hp hsn hu hX hK
      by_cases h47 : X = 47
      · subst h47
        have HS := Lib.hid (HHIT.out (by simp)); clear HMISS HHIT
        go_wp2_with (first | (at_builtin; (refine push1 rfl (.tmp 27) (.tmp 32) _ rfl w.heap.size 9 i1 (.string ⟨#[]⟩) 16 Tryz.underlying35 hi1 hz1 hz2 hz3 (by decide) _ _ _ (Strs o) rfl HO2.out (.string u) rfl rfl (by omega) (by decide) (by omega) ?_); intro v2 w2 hown2 hw2 hb2; have HOA := Lib.hid hown2; clear hown2; have HB2 := Lib.hid hb2; clear hb2) | fail)
        go_roundw
        case rel =>
          have hke := HK.out
          subst hke
          refine ⟨k + 1, k + 1, o ++ [p], by omega, by omega, by rw [List.length_append, ← HAL.out]; simp; omega, by rfl, by rfl, ?_, HS.out, HB.out.trans HB2.out⟩
          show World.ownsRow _ _ _ _ _ _ _
          rw [HSN.out, List.length_append, ← HAL.out]
          exact HOA.out
        case measure => have := HK.out; simp [intOf]; omega
      · have q47 : (X == 47) = false := by simpa using h47
        cases sp with
        | false =>
          have HS := Lib.hid (HMISS.out (by simp [h47])); clear HMISS HHIT
          go_wp2_with fail
          go_roundw
          case rel =>
            have hke := HK.out
            subst hke
            exact ⟨k + 1, f, o, by omega, by omega, by rw [← HAL.out]; omega, by rfl, by rfl, by rw [← HAL.out]; exact HO2.out, HS.out, HB.out⟩
          case measure => have := HK.out; simp [intOf]; omega
        | true =>
          by_cases h92 : X = 92
          · subst h92
            have HS := Lib.hid (HHIT.out (by simp)); clear HMISS HHIT
            go_wp2_with (first | (at_builtin; (refine push1 rfl (.tmp 27) (.tmp 32) _ rfl w.heap.size 9 i1 (.string ⟨#[]⟩) 16 Tryz.underlying35 hi1 hz1 hz2 hz3 (by decide) _ _ _ (Strs o) rfl HO2.out (.string u) rfl rfl (by omega) (by decide) (by omega) ?_); intro v2 w2 hown2 hw2 hb2; have HOA := Lib.hid hown2; clear hown2; have HB2 := Lib.hid hb2; clear hb2) | fail)
            go_roundw
            case rel =>
              have hke := HK.out
              subst hke
              refine ⟨k + 1, k + 1, o ++ [p], by omega, by omega, by rw [List.length_append, ← HAL.out]; simp; omega, by rfl, by rfl, ?_, HS.out, HB.out.trans HB2.out⟩
              show World.ownsRow _ _ _ _ _ _ _
              rw [HSN.out, List.length_append, ← HAL.out]
              exact HOA.out
            case measure => have := HK.out; simp [intOf]; omega
          · have q92 : (X == 92) = false := by simpa using h92
            have HS := Lib.hid (HMISS.out (by simp [h47, h92])); clear HMISS HHIT
            go_wp2_with fail
            go_roundw
            case rel =>
              have hke := HK.out
              subst hke
              exact ⟨k + 1, f, o, by omega, by omega, by rw [← HAL.out]; omega, by rfl, by rfl, by rw [← HAL.out]; exact HO2.out, HS.out, HB.out⟩
            case measure => have := HK.out; simp [intOf]; omega
    · obtain rfl : k = N := by omega
      have hex := HEX.out f k
      have hln : (l.drop f).take (k - f) = l.drop f := List.take_of_length_le (by rw [List.length_drop]; have := HSZ.out; omega)
      rw [hln] at hex
      obtain ⟨h1, h2⟩ := hinv.out
      have hpc : segs sp (l.drop f) = [l.drop f] := segs_piece (fun y hy => by
        have hy2 : y ∈ (l.drop f).take (k - f) := by rw [hln]; exact hy
        obtain ⟨j, hj, h3, h4, rfl⟩ := mid_mem hy2
        exact h2 j hj h3 h4)
      rw [hpc] at h1
      have hsn := strs_snoc o (l.drop f)
      rw [h1] at hsn
      obtain ⟨u, hu⟩ : ∃ u, u = bs (l.drop f) := ⟨_, rfl⟩
      rw [← hu] at hex hsn
      have HSN := Lib.hid hsn
      have HTL := Lib.hid (show T.length = al + 1 by rw [← h1, List.length_append, ← HAL.out]; rfl)
      have hfs : f ≤ s.size := by omega
      have hfki : (f : Int) ≤ k := by omega
      clear hinv h1 h2 hpc hsn hu hln HAL
      go_wp2_with (first | (at_builtin; (refine push1 rfl (.tmp 36) (.tmp 40) _ rfl w.heap.size 9 i1 (.string ⟨#[]⟩) 16 Tryz.underlying35 hi1 hz1 hz2 hz3 (by decide) _ _ _ (Strs o) rfl HO2.out (.string u) rfl rfl (by omega) (by decide) (by omega) ?_); intro v2 w2 hown2 hw2 hb2; have HOA := Lib.hid hown2; clear hown2; have HB2 := Lib.hid hb2; clear hb2) | fail)
      go_ret
      refine ⟨_, rfl, ?_, HB.out.trans HB2.out⟩
      rw [List.length_map, HTL.out, HSN.out]
      exact HOA.out
end Go.Proofs.YtjgenpooedkfmaaGreatDoor
