/- Addresses as texts: the reference's Path, ahead, Write. -/
import Derived.Test.YtcmpjklkdmpglaaDoorSerW
namespace Go.Proofs.YtcmpjklkdmpglaaDoor
open Go.RowKit
set_option maxRecDepth 10000

set_option maxHeartbeats 4000000 in
theorem rpath_any (u : Url) (cs : Array Value) (pv : Value) (w : World) (h : UrlAt cs pv u) (hp : Sl w.heap.size w pv (u.path.map S)) (hl : (joinP u.path).length ≤ 1000000) :
    Calls Tryd.prog 33 #[.agg cs] w fun e w' => e = .returned (S (pathF u)) ∧ Below w.heap.size w w' := by
  have h1 := h.opq
  have h2 := h.flat
  have h3 := h.path
  clear h
  obtain ⟨R, hR⟩ : ∃ R, R = pathF u := ⟨_, rfl⟩
  rw [← hR]
  unfold pathF at hR
  generalize u.flat = fl at h2 hR
  generalize u.path = ps at hp hl hR h3
  cases ho : u.opq
  · rw [ho] at h1 hR
    obtain ⟨av, c, hpv⟩ := slice_val hp
    rw [List.length_map] at hpv
    subst hpv
    obtain ⟨N, hN⟩ : ∃ N, N = ps.length := ⟨_, rfl⟩
    rw [← hN] at h3 hp
    have hNl := joinP_len ps
    have hNm : N ≤ 1000000 := by omega
    clear hNl
    have HN := Lib.hid hN; clear hN
    have HL := Lib.hid hl; clear hl
    have HP := Lib.hid hp; clear hp
    have hR2 : R = joinP ps := hR
    clear hR
    have HR := Lib.hid hR2; clear hR2
    clear ho h2
    go_enter Tryd.func33, Tryd.ntmps33
    go_wp2_with (first | (refine boxed rfl _ _ rfl cs rfl ?_; intro bx w1 hb1 hb2 hb3 hb4 hb5; have c1 := (hb4 16).trans h1; have c2 := (hb4 18).trans h3; clear hb4 hb3))
    have HB := Lib.hid hb5; clear hb5 hb1 hb2
    go_loopw [3, 4] (fun sv iv wr => ∃ k : Nat, k ≤ N ∧ iv = .int .i64 k ∧ sv = .string (bs (joinP (ps.take k))) ∧ w1 = wr) (fun _ i _ => N - (intOf i).toNat)
    case atStart => exact ⟨0, by omega, by simp, rfl, rfl⟩
    case round =>
      obtain ⟨k, hk, rfl, rfl, rfl⟩ := hrel
      by_cases hlt : k < N
      · have hkl : k < ps.length := by rw [← HN.out]; exact hlt
        obtain ⟨b, o, rfl, hbb, hcc⟩ := strs_at (HP.out.below HB.out) k hkl
        have hjt := joinP_take ps k hkl
        have hjl := joinP_take_len ps (k + 1)
        have hL := HL.out
        rw [hjt] at hjl
        simp only [List.length_append, List.length_cons, List.length_nil] at hjl
        generalize ps[k] = piece at hcc hjt hjl
        generalize joinP (ps.take k) = T at hjt hjl ⊢
        have hj1 : T.length + 1 + piece.length ≤ 1000000 := by omega
        have hcat := bs_app (T ++ [47]) piece
        rw [← bs_app T [47], ← hjt] at hcat
        have e47 : bs [47] = ⟨#[47]⟩ := rfl
        rw [e47] at hcat
        clear hjl hL e47 hjt
        have HCT := Lib.hid hcat; clear hcat
        go_wp2_with fail
        go_roundw
        case rel => exact ⟨k + 1, by omega, by simp, by rw [HCT.out], by trivial⟩
        case measure => simp [intOf]; omega
      · obtain rfl : k = N := by omega
        go_wp2_with fail
        go_ret
        refine ⟨?_, HB.out⟩
        rw [HR.out, HN.out, List.take_length]; rfl
  · rw [ho] at h1 hR
    have hR2 : R = fl := hR
    clear hR hp hl
    subst hR2
    go_enter Tryd.func33, Tryd.ntmps33
    go_wp2_with (first | (refine boxed rfl _ _ rfl cs rfl ?_; intro bx w1 hb1 hb2 hb3 hb4 hb5; have c1 := (hb4 16).trans h1; have c2 := (hb4 17).trans h2; clear hb4 hb3))
    go_ret
    exact ⟨rfl, hb5⟩

set_option maxHeartbeats 8000000 in
theorem rahead_any (u : Url) (cs : Array Value) (pv : Value) (w : World) (h : UrlAt cs pv u) (hp : Sl w.heap.size w pv (u.path.map S)) (hs : UrlSm u) :
    Calls Tryd.prog 32 #[.agg cs] w fun e w' => e = .returned (S (aheadF u)) ∧ Below w.heap.size w w' := by
  have hhost := fun W => rhwrite_any u.host _ W (hstAt_of h.ok.h) hs.name
  have htext := fun W => rText_any u.port W h.ok.p.1 h.ok.p.2
  have h1 := h.usr
  have h2 := h.pas
  have h3 := h.kind
  have h14 := h.hasPort
  have h15 := h.port
  have h16 := h.opq
  have h18 := h.path
  have hC : ∀ j v, (hstCells u.host)[j]? = some v → cs[3 + j]? = some v := by
    intro j v hj
    have hl : (hstCells u.host).length = 11 := by simp [hstCells, h.ok.h.l]
    have hj2 : j < 11 := by
      have := (List.getElem?_eq_some_iff.1 hj).1
      omega
    rw [h.hostC j hj2]; exact hj
  have hl11 : (hstCells u.host).length = 11 := by simp [hstCells, h.ok.h.l]
  have hah : aheadF u = if u.host.kind = 0 then dotF u else [47, 47] ++ whoF u ++ hostF u.host ++ portF u := rfl
  have hdot : dotF u = if u.opq = false ∧ 2 ≤ u.path.length ∧ u.path.head? = some [] then [47, 46] else [] := rfl
  have hpo : portF u = if u.hasPort then [58] ++ Lib.itoa u.port else [] := rfl
  have hwh : whoF u = if u.usr = [] ∧ u.pas = [] then [] else if u.pas = [] then u.usr ++ [64] else u.usr ++ [58] ++ u.pas ++ [64] := rfl
  have l1 := whoF_len u hs
  have l2 := hostF_len u.host h.ok.h 100000 hs.name
  have l6 := itoa_len u.port h.ok.p.1 h.ok.p.2
  have l7 := hs.usr
  have l8 := hs.pas
  clear h hs
  generalize hstCells u.host = c11 at hC hl11 hhost
  generalize whoF u = WH at *
  generalize hostF u.host = HO at *
  generalize portF u = PO at *
  generalize aheadF u = AH at *
  generalize dotF u = DO at *
  generalize Lib.itoa u.port = IT at *
  generalize u.usr = x at *
  generalize u.pas = y at *
  generalize u.host.kind = K at *
  generalize u.hasPort = hasPort at *
  generalize u.port = port at *
  generalize u.opq = opq at *
  generalize u.path = path at *
  have HHOST := Lib.hid hhost; clear hhost
  have HTEXT := Lib.hid htext; clear htext
  have HC11 := Lib.hid hC; clear hC
  have HL11 := Lib.hid hl11; clear hl11
  have HP := Lib.hid hp; clear hp
  have HPO := Lib.hid hpo; clear hpo
  have HWH := Lib.hid hwh; clear hwh
  have HDOT := Lib.hid hdot; clear hdot
  have l2' : HO.length ≤ 100074 := l2
  clear l2
  by_cases hk : K = 0
  · rw [if_pos hk] at hah
    subst hah
    obtain ⟨av, cc, hpv⟩ := slice_val HP.out
    rw [List.length_map] at hpv
    subst hpv
    have hdot := HDOT.out
    clear h14 h15 h1 h2
    cases opq
    · cases path with
      | nil =>
        rw [if_neg (by simp)] at hdot
        subst hdot
        go_enter Tryd.func32, Tryd.ntmps32
        go_wp2_with (first | (refine boxed rfl _ _ rfl cs rfl ?_; intro bx w1 hb1 hb2 hb3 hb4 hb5; have c3 := (hb4 3).trans h3; have c16 := (hb4 16).trans h16; have c18 := (hb4 18).trans h18; have HB := Lib.hid hb5; clear hb1 hb2 hb3 hb4 hb5))
        go_ret
        exact ⟨rfl, HB.out⟩
      | cons p0 ps =>
        cases ps with
        | nil =>
          rw [if_neg (by simp)] at hdot
          subst hdot
          go_enter Tryd.func32, Tryd.ntmps32
          go_wp2_with (first | (refine boxed rfl _ _ rfl cs rfl ?_; intro bx w1 hb1 hb2 hb3 hb4 hb5; have c3 := (hb4 3).trans h3; have c16 := (hb4 16).trans h16; have c18 := (hb4 18).trans h18; have HB := Lib.hid hb5; clear hb1 hb2 hb3 hb4 hb5))
          go_ret
          exact ⟨rfl, HB.out⟩
        | cons p1 ps =>
          obtain ⟨pb, po, rfl, hpb, hpc⟩ := strs_at HP.out 0 (by simp)
          simp only [List.getElem_cons_zero, Nat.add_zero] at hpc
          have hlen2 : (1 : Int) < ((p0 :: p1 :: ps).length : Nat) := by simp; omega
          have hpcB := fun (W : World) (hW : Below w.heap.size w W) => (hW.cell (p := ⟨pb, po, none⟩) hpb).trans hpc
          have HPC := Lib.hid hpcB; clear hpcB hpc
          by_cases hp0 : p0 = []
          · subst hp0
            rw [if_pos (by simp)] at hdot
            subst hdot
            have e1 : (bs []).toList.isEmpty = true := by rw [toList_bs]; rfl
            have e2 : (bs []).toList = [] := toList_bs _
            go_enter Tryd.func32, Tryd.ntmps32
            go_wp2_with (first | (refine boxed rfl _ _ rfl cs rfl ?_; intro bx w1 hb1 hb2 hb3 hb4 hb5; have c3 := (hb4 3).trans h3; have c16 := (hb4 16).trans h16; have c18 := (hb4 18).trans h18; have cp := HPC.out _ hb5; have HB := Lib.hid hb5; clear hb1 hb2 hb3 hb4 hb5))
            go_ret
            exact ⟨rfl, HB.out⟩
          · rw [if_neg (by simp [hp0])] at hdot
            subst hdot
            have e1 : (bs p0).toList.isEmpty = false := by rw [toList_bs]; simpa using hp0
            have e2 : ¬ (bs p0).toList = [] := by rw [toList_bs]; exact hp0
            clear hp0
            go_enter Tryd.func32, Tryd.ntmps32
            go_wp2_with (first | (refine boxed rfl _ _ rfl cs rfl ?_; intro bx w1 hb1 hb2 hb3 hb4 hb5; have c3 := (hb4 3).trans h3; have c16 := (hb4 16).trans h16; have c18 := (hb4 18).trans h18; have cp := HPC.out _ hb5; have HB := Lib.hid hb5; clear hb1 hb2 hb3 hb4 hb5))
            go_ret
            exact ⟨rfl, HB.out⟩
    · rw [if_neg (by simp)] at hdot
      subst hdot
      go_enter Tryd.func32, Tryd.ntmps32
      go_wp2_with (first | (refine boxed rfl _ _ rfl cs rfl ?_; intro bx w1 hb1 hb2 hb3 hb4 hb5; have c3 := (hb4 3).trans h3; have c16 := (hb4 16).trans h16; have c18 := (hb4 18).trans h18; have HB := Lib.hid hb5; clear hb1 hb2 hb3 hb4 hb5))
      go_ret
      exact ⟨rfl, HB.out⟩
  · rw [if_neg hk] at hah
    have HAH := Lib.hid hah; clear hah
    clear h16 h18
    go_enter Tryd.func32, Tryd.ntmps32
    go_upto_region 6 with (first
      | (refine boxed rfl _ _ rfl cs rfl ?_; intro bx w1 hb1 hb2 hb3 hb4 hb5; have c3 := (hb4 3).trans h3; have c1 := (hb4 1).trans h1; have c2 := (hb4 2).trans h2; have c14 := (hb4 14).trans h14; have c15 := (hb4 15).trans h15; have HC := Lib.hid hb4; have HB := Lib.hid hb5; have HBX := Lib.hid hb2; clear hb1 hb2 hb3 hb4 hb5))
    have e47 : (⟨#[47, 47]⟩ : ByteArray) = bs [47, 47] := rfl
    obtain ⟨T, hT⟩ : ∃ T, T = !decide (x = [] ∧ y = []) := ⟨_, rfl⟩
    have HT := Lib.hid hT; clear hT
    go_cut [31] from 4 (fun s31 wx => s31 = .bool T ∧ w1 = wx)
    case first =>
      go_wp2_with fail
      all_goals
        go_meet
        case rel =>
          have hT := HT.out
          first
            | (simp_all [toList_bs]; done)
            | (simp_all [toList_bs]; cases y <;> simp)
    case rest =>
      obtain ⟨rfl, rfl⟩ := hcut
      go_upto_if 31 with fail
      go_cut [3] from 4 (fun s3 wx => s3 = .string (bs ([47, 47] ++ WH)) ∧ w1 = wx)
      case first =>
        have hwh := HWH.out
        by_cases hxy : x = [] ∧ y = []
        · rw [if_pos hxy] at hwh
          have hT : T = false := by rw [HT.out]; simp [hxy]
          subst hT
          subst hwh
          clear hxy
          go_wp2_with fail
          go_meet
          case rel => exact ⟨rfl, rfl⟩
        · rw [if_neg hxy] at hwh
          have hT : T = true := by rw [HT.out]; simp only [hxy, decide_false, Bool.not_false]
          subst hT
          by_cases hy : y = []
          · rw [if_pos hy] at hwh
            have ey1 : (bs y).toList.isEmpty = true := by rw [toList_bs, hy]; rfl
            have ey2 : (bs y).toList = [] := by rw [toList_bs, hy]
            have hW : bs [47, 47] ++ bs x ++ ⟨#[64]⟩ = bs ([47, 47] ++ WH) := by
              rw [hwh, bs_app]; exact (bs_app _ [64]).trans (by rw [List.append_assoc])
            have HW := Lib.hid hW; clear hW hwh hy hxy
            go_wp2_with fail
            go_meet
            case rel => exact ⟨by rw [← HW.out], rfl⟩
          · rw [if_neg hy] at hwh
            have ey1 : (bs y).toList.isEmpty = false := by rw [toList_bs]; simpa using hy
            have ey2 : ¬ (bs y).toList = [] := by rw [toList_bs]; exact hy
            have hW : bs [47, 47] ++ bs x ++ ⟨#[58]⟩ ++ bs y ++ ⟨#[64]⟩ = bs ([47, 47] ++ WH) := by
              have e1 : (⟨#[58]⟩ : ByteArray) = bs [58] := rfl
              have e2 : (⟨#[64]⟩ : ByteArray) = bs [64] := rfl
              rw [hwh, e1, e2, bs_app, bs_app, bs_app, bs_app]
              simp
            have HW := Lib.hid hW; clear hW hwh hy hxy
            go_wp2_with fail
            go_meet
            case rel => exact ⟨by rw [← HW.out], rfl⟩
      case rest =>
        obtain ⟨rfl, rfl⟩ := hcut
        have hwl : ([47, 47] ++ WH).length ≤ 200004 := by rw [List.length_append]; simp; omega
        generalize [47, 47] ++ WH = A at HAH hwl ⊢
        have hcat := bs_app A HO
        have HCT := Lib.hid hcat; clear hcat
        have hpo := HPO.out
        cases hasPort
        · have hpo2 : PO = [] := hpo
          clear hpo
          subst hpo2
          go_wp2_with (first
            | (refine wpList_load_mid rfl 29 _ rfl bx 3 rfl c11 _ (fun j v hv => by rw [HC.out (3 + j)]; exact HC11.out j v hv) Tryd.underlying29 rfl (by rw [HL11.out]; kernel_rfl) ?_)
            | (go_at_call 40; refine (HHOST.out _).mono ?_; rintro e w7 ⟨rfl, hb7⟩; have c14b := (cellB hb7 HBX.out HC.out 14).trans h14; have HB7 := Lib.hid (HB.out.trans (hb7.mono HB.out.size)); clear hb7)
            | fail)
          go_ret
          refine ⟨ret1_S ?_, HB7.out⟩
          rw [HAH.out]
          simp [ls_app]
        · have hpo2 : PO = [58] ++ IT := hpo
          have HPO2 := Lib.hid hpo2; clear hpo hpo2
          go_wp2_with (first
            | (refine wpList_load_mid rfl 29 _ rfl bx 3 rfl c11 _ (fun j v hv => by rw [HC.out (3 + j)]; exact HC11.out j v hv) Tryd.underlying29 rfl (by rw [HL11.out]; kernel_rfl) ?_)
            | (go_at_call 40; refine (HHOST.out _).mono ?_; rintro e w7 ⟨rfl, hb7⟩; have c14b := (cellB hb7 HBX.out HC.out 14).trans h14; have c15b := (cellB hb7 HBX.out HC.out 15).trans h15; have HB7 := Lib.hid (HB.out.trans (hb7.mono HB.out.size)); clear hb7)
            | (go_at_call 41; refine (HTEXT.out _).mono ?_; rintro e w8 ⟨rfl, hb8⟩; have HB8 := Lib.hid (HB7.out.trans (hb8.mono HB7.out.size)); clear hb8)
            | fail)
          go_ret
          refine ⟨ret1_S ?_, HB8.out⟩
          rw [HAH.out, HPO2.out]
          simp [ls_app, ls_mk]
theorem load_exec {P : Program} {a : Act} {o : Oper} {w : World} {ty : TypeId} {x : Operand} {v : Value} (ho : o.op = .load ty x) (p : Value) (hx : a.eval x = p) (hr : (Instr.loadAt ty p).run P w = .ok v w) : (execOp a.eval o).run P w = .ok (.value v) w := by
  unfold execOp
  simp only [ho, hx, Sem.run_bind, Sem.run_pure, Result.andThen_ok, hr]
/-- a whole address, loaded -/
theorem loadU_run {w1 W : World} {bx : Nat} {cs : Array Value} (HC : ∀ i, w1.cell? ⟨bx, i, none⟩ = cs[i]?) (hbx : bx < w1.heap.size) (hsz : cs.size = 23) (hb : Below w1.heap.size w1 W) :
    (Instr.loadAt 32 (.pointer (some ⟨bx, 0, none⟩))).run Tryd.prog W = .ok (.agg cs) W := by
  have h := run_loadAt_mid (P := Tryd.prog) W bx 0 32 cs.toList _ (six_load 0 (fun i => by rw [Nat.zero_add]; exact cellB hb hbx HC i)) Tryd.underlying32 rfl (by rw [Array.length_toList, hsz]; kernel_rfl)
  rw [Array.toArray_toList] at h
  exact h

set_option maxHeartbeats 8000000 in
theorem rser_any (u : Url) (cs : Array Value) (pv : Value) (fr : Bool) (w : World) (h : UrlAt cs pv u) (hp : Sl w.heap.size w pv (u.path.map S)) (hs : UrlSm u) :
    Calls Tryd.prog 16 #[.agg cs, .bool fr] w fun e w' => e = .returned (S (serF u fr)) ∧ Below w.heap.size w w' := by
  have hpath := fun W (hW : Below w.heap.size w W) => rpath_any u cs pv W h ((hp.below hW).more hW.size) hs.path
  have hahd := fun W (hW : Below w.heap.size w W) => rahead_any u cs pv W h ((hp.below hW).more hW.size) hs
  have h0 := h.sch
  have h19 := h.hasQ
  have h20 := h.q
  have h21 := h.hasF
  have h22 := h.f
  have hsz := h.sz
  have hser : serF u fr = u.sch ++ [58] ++ aheadF u ++ pathF u ++ qF u ++ frF u fr := rfl
  have hqf : qF u = if u.hasQ then [63] ++ u.q else [] := rfl
  have hff : frF u fr = if u.hasF && fr then [35] ++ u.f else [] := rfl
  have l3 := aheadF_len u h.ok hs
  have l4 := pathF_len u hs
  have l5 := qF_len u hs
  have l7 := hs.sch
  have l8 := hs.q
  have l9 := hs.f
  clear h hs hp
  generalize serF u fr = RS at hser ⊢
  generalize aheadF u = AH at *
  generalize pathF u = PA at *
  generalize qF u = QU at *
  generalize frF u fr = FR at *
  generalize u.sch = sch at *
  generalize u.hasQ = hasQ at *
  generalize u.q = q at *
  generalize u.hasF = hasF at *
  generalize u.f = f at *
  have HPATH := Lib.hid hpath; clear hpath
  have HAHD := Lib.hid hahd; clear hahd
  have HSER0 := Lib.hid hser; clear hser
  have HQF := Lib.hid hqf; clear hqf
  have HFF := Lib.hid hff; clear hff
  have HSZ := Lib.hid hsz; clear hsz
  have e1 : ¬ 9223372036854775807 < sch.length + 1 := by omega
  have e2 : ¬ 9223372036854775807 < sch.length + 1 + AH.length := by omega
  have e3 : ¬ 9223372036854775807 < sch.length + 1 + AH.length + PA.length := by omega
  have HH := Lib.hid (And.intro h19 (And.intro h20 (And.intro h21 h22)))
  clear h19 h20 h21 h22
  go_enter Tryd.func16, Tryd.ntmps16
  go_upto_region 1 with (first
    | (refine boxed rfl _ _ rfl cs rfl ?_; intro bx w1 hb1 hb2 hb3 hb4 hb5; have HC := Lib.hid hb4; have HB := Lib.hid hb5; have HBX := Lib.hid hb2; clear hb1 hb2 hb3 hb4 hb5)
    | fail)
  have hcat : bs sch ++ ⟨#[58]⟩ ++ bs AH ++ bs PA = bs (sch ++ [58] ++ AH ++ PA) := by
    have e58 : (⟨#[58]⟩ : ByteArray) = bs [58] := rfl
    rw [e58, bs_app, bs_app, bs_app]
  go_cut [5] from 6 (fun s5 wx => Hid (s5 = .string (bs (sch ++ [58] ++ AH ++ PA)) ∧ Below w1.heap.size w1 wx))
  case first =>
    refine wp_region_held_drew (S := fun W => Below w1.heap.size w1 W) (by kernel_rfl) (by first | exact bz_drew (bz_refl _) | assumption | exact bz_step (by assumption) (by assumption) | exact bz_drew (by assumption)) (fun hHeld => ?_)
    refine tk 0 (v := ?_) rfl (by kernel_rfl) (by kernel_rfl) (by kernel_rfl) (fun _ _ _ h => h) (by rfl) (by assumption) (fun w hSw => ?_) ?_
    rotate_left
    · (try dsimp only at hSw); go_simp; first | done | with_reducible rfl   -- fieldAddr
    try simp only [Act.put, List.setIfInBounds_toArray, List.set_cons_zero, List.set_cons_succ]
    refine tk 1 (v := ?_) rfl (by kernel_rfl) (by kernel_rfl) (by kernel_rfl) (fun _ _ _ h => h) (by rfl) (by assumption) (fun w hSw => ?_) ?_
    rotate_left
    · (try dsimp only at hSw)   -- load
      have c := (cellB hSw HBX.out HC.out 0).trans h0
      go_simp
      first | done | with_reducible rfl
    try simp only [Act.put, List.setIfInBounds_toArray, List.set_cons_zero, List.set_cons_succ]
    refine tk 2 (v := ?_) rfl (by kernel_rfl) (by kernel_rfl) (by kernel_rfl) (fun _ _ _ h => h) (by rfl) (by assumption) (fun w hSw => ?_) ?_
    rotate_left
    · (try dsimp only at hSw); go_simp; first | done | with_reducible rfl   -- binOp
    try simp only [Act.put, List.setIfInBounds_toArray, List.set_cons_zero, List.set_cons_succ]
    refine tk 3 (v := ?_) rfl (by kernel_rfl) (by kernel_rfl) (by kernel_rfl) (fun _ _ _ h => h) (by rfl) (by assumption) (fun w hSw => ?_) ?_
    rotate_left
    · (try dsimp only at hSw)   -- load
      refine load_exec (v := .agg cs) (ty := 32) (x := .tmp 2) ?_ (.pointer (some ⟨bx, 0, none⟩)) ?_ ?_
      · rfl
      · rfl
      · exact loadU_run HC.out HBX.out HSZ.out hSw
    try simp only [Act.put, List.setIfInBounds_toArray, List.set_cons_zero, List.set_cons_succ]
    refine tk 6 (v := ?_) rfl (by kernel_rfl) (by kernel_rfl) (by kernel_rfl) (fun _ _ _ h => h) (by rfl) (by assumption) (fun w hSw => ?_) ?_
    rotate_left
    · (try dsimp only at hSw)   -- load
      refine load_exec (v := .agg cs) (ty := 32) (x := .tmp 2) ?_ (.pointer (some ⟨bx, 0, none⟩)) ?_ ?_
      · rfl
      · rfl
      · exact loadU_run HC.out HBX.out HSZ.out hSw
    try simp only [Act.put, List.setIfInBounds_toArray, List.set_cons_zero, List.set_cons_succ]
    refine rn 4 (by kernel_rfl) rfl (by rfl) (fun K hK => ?_)
    go_simp   -- 4: call of tamis/tamisref13.ahead
    refine (HAHD.out _ HB.out.drew).mono ?_
    rintro e w4 ⟨rfl, hb4⟩
    have hB4 : Below w1.heap.size w1 w4 := (Below.refl w1.heap.size w1).drew.trans hb4
    clear hb4
    dsimp only
    refine hK.out _ _ ?_ (fun hHeld => ?_)
    · first | exact bz_drew (bz_refl _) | assumption | exact bz_step (by assumption) (by assumption) | exact bz_drew (by assumption)
    clear hK K
    try simp only [Act.put, List.setIfInBounds_toArray, List.set_cons_zero, List.set_cons_succ]
    refine tk 5 (v := ?_) rfl (by kernel_rfl) (by kernel_rfl) (by kernel_rfl) (fun _ _ _ h => h) (by rfl) (by assumption) (fun w hSw => ?_) ?_
    rotate_left
    · (try dsimp only at hSw); go_simp; first | done | with_reducible rfl   -- binOp
    try simp only [Act.put, List.setIfInBounds_toArray, List.set_cons_zero, List.set_cons_succ]
    refine rn 7 (by kernel_rfl) rfl (by rfl) (fun K hK => ?_)
    go_simp   -- 7: call of tamis/tamisref13.Path
    refine (HPATH.out _ (HB.out.trans (hB4.mono HB.out.size))).mono ?_
    rintro e w7 ⟨rfl, hb7⟩
    have hB7 : Below w1.heap.size w1 w7 := hB4.trans (hb7.mono hB4.size)
    clear hb7
    dsimp only
    refine hK.out _ _ ?_ (fun hHeld => ?_)
    · first | exact bz_drew (bz_refl _) | assumption | exact bz_step (by assumption) (by assumption) | exact bz_drew (by assumption)
    clear hK K
    try simp only [Act.put, List.setIfInBounds_toArray, List.set_cons_zero, List.set_cons_succ]
    refine tk 8 (v := ?_) rfl (by kernel_rfl) (by kernel_rfl) (by kernel_rfl) (fun _ _ _ h => h) (by rfl) (by assumption) (fun w hSw => ?_) ?_
    rotate_left
    · (try dsimp only at hSw); go_simp; first | done | with_reducible rfl   -- binOp
    try simp only [Act.put, List.setIfInBounds_toArray, List.set_cons_zero, List.set_cons_succ]
    refine tk 9 (v := ?_) rfl (by kernel_rfl) (by kernel_rfl) (by kernel_rfl) (fun _ _ _ h => h) (by rfl) (by assumption) (fun w hSw => ?_) ?_
    rotate_left
    · (try dsimp only at hSw); go_simp; first | done | with_reducible rfl   -- assign
    try simp only [Act.put, List.setIfInBounds_toArray, List.set_cons_zero, List.set_cons_succ]
    refine wpAnyH_done (by kernel_rfl) ?_ _
    go_wp2_with fail
    go_meet
    case rel => exact ⟨by simp, hB7⟩
  case rest =>
    have hl1 : (sch ++ [58] ++ AH ++ PA).length ≤ 3000000 := by simp only [List.length_append, List.length_cons, List.length_nil]; omega
    obtain ⟨A, hA⟩ : ∃ A, A = sch ++ [58] ++ AH ++ PA := ⟨_, rfl⟩
    rw [← hA] at hcut hl1
    obtain ⟨rfl, hbw⟩ := hcut.out
    have HBW := Lib.hid hbw; clear hbw hcut hcat
    have hser := HSER0.out
    rw [← hA] at hser
    have HSER := Lib.hid hser
    clear hA
    have hH := HH.out
    obtain ⟨h19, h20, h21, h22⟩ := hH
    have CB := Lib.hid (fun i => cellB HBW.out HBX.out HC.out i)
    have c19 := (CB.out 19).trans h19
    have c20 := (CB.out 20).trans h20
    have c21 := (CB.out 21).trans h21
    have c22 := (CB.out 22).trans h22
    have hqf := HQF.out
    have hff := HFF.out
    have HQF2 := Lib.hid hqf
    have HFF2 := Lib.hid hff
    clear hqf hff
    go_wp2_with fail
    all_goals
      go_ret
      refine ⟨ret1_S ?_, HB.out.trans (HBW.out.mono HB.out.size)⟩
      rw [HSER.out, HQF2.out, HFF2.out]
      simp_all [ls_app, ls_mk]
end Go.Proofs.YtcmpjklkdmpglaaDoor
