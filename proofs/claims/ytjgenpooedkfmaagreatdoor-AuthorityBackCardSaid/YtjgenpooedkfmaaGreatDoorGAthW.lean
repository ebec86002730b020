/- AthW AthX: joined. -/
import Derived.Test.YtjgenpooedkfmaaGreatDoorGHlwA
import Derived.Test.YtjgenpooedkfmaaGreatDoorGNumT
/- Who is asked, and where, as a text: the law's own write. -/
namespace Go.Proofs.YtjgenpooedkfmaaGreatDoor
open Go.RowKit
set_option maxRecDepth 10000

def uOf (a : Ath) : Url := { U0 with usr := a.user, pas := a.pass, host := a.host, hasPort := a.hasPort, port := a.port }
theorem ser_wt {a : Ath} (hk : a.host.kind ≠ 0) : serF (uOf a) false = 58 :: 47 :: 47 :: wtF a := by
  unfold serF aheadF
  rw [if_neg (show ¬ (uOf a).host.kind = 0 from hk)]
  have e1 : pathF (uOf a) = [] := rfl
  have e2 : qF (uOf a) = [] := rfl
  have e3 : frF (uOf a) false = [] := rfl
  have e4 : whoF (uOf a) = whoT a := by
    unfold whoF whoT
    show (if a.user = [] ∧ a.pass = [] then [] else if a.pass = [] then a.user ++ [64] else a.user ++ [58] ++ a.pass ++ [64]) = _
    by_cases h1 : a.user = [] ∧ a.pass = []
    · rw [if_pos h1, if_pos h1]
    · rw [if_neg h1, if_neg h1]
      by_cases h2 : a.pass = []
      · rw [if_pos h2, if_pos h2, List.append_nil]
      · rw [if_neg h2, if_neg h2]; simp
  have e5 : portF (uOf a) = portT a := by
    unfold portF portT
    rfl
  rw [e1, e2, e3, e4, e5]
  show [] ++ [58] ++ ([47, 47] ++ whoT a ++ hostF a.host ++ portT a) ++ [] ++ [] ++ [] = _
  unfold wtF
  simp
theorem bldUA (u p : Bytes) (g : Hst) (h8 : g.six.length = 8) (b : Bool) (n : Int) : ∀ w, (Instr.build 37 #[(1, S u), (2, S p), (3, .agg (hCells g)), (4, .bool b), (5, .int .i64 n)]).run Tryz.prog w = .ok (.agg (uCells nilV (uOf ⟨u, p, g, b, n⟩))) w := fun w => by
  obtain ⟨k, n, f, six⟩ := g
  simp only at h8
  obtain ⟨a, b, c, d, e, f, g, i, rfl⟩ := eight h8
  kernel_rfl
theorem bldUA_to {ops : Array Oper} {rest : List Oper} {o : Oper} {a : Act} {w : World} {Q : Exit → Act → World → Prop} (hg : o.guard = none) (x1 x2 x3 x4 x5 : Operand) (ho : o.op = .build 37 #[(1, x1), (2, x2), (3, x3), (4, x4), (5, x5)]) (A : Ath) (h8 : A.host.six.length = 8)
    (h1 : a.eval x1 = S A.user) (h2 : a.eval x2 = S A.pass) (h3 : a.eval x3 = .agg (hCells A.host)) (h4 : a.eval x4 = .bool A.hasPort) (h5 : a.eval x5 = .int .i64 A.port)
    (k : wpList Tryz.prog ops Q rest (a.put o.dst (.agg (uCells nilV (uOf A)))) w) : wpList Tryz.prog ops Q (o :: rest) a w :=
  build_to hg _ _ ho _ #[(1, S A.user), (2, S A.pass), (3, .agg (hCells A.host)), (4, .bool A.hasPort), (5, .int .i64 A.port)] (by rw [← h1, ← h2, ← h3, ← h4, ← h5]; simp) (bldUA A.user A.pass A.host h8 A.hasPort A.port) k
theorem ath_cells (A : Ath) (h8 : A.host.six.length = 8) : (aCells A)[0]? = some (S A.user) ∧ (aCells A)[1]? = some (S A.pass) ∧ (aCells A)[13]? = some (.bool A.hasPort) ∧ (aCells A)[14]? = some (.int .i64 A.port) ∧ (aCells A)[2]? = some (.int .i64 A.host.kind) := by
  obtain ⟨u, p, ⟨k, nm, f, six⟩, hp, po⟩ := A
  simp only at h8
  obtain ⟨b1, b2, b3, b4, b5, b6, b7, b8, rfl⟩ := eight h8
  exact ⟨rfl, rfl, rfl, rfl, rfl⟩
theorem ath_hst (a : Ath) : ∀ j v, (hstCells a.host)[j]? = some v → (aCells a)[2 + j]? = some v := by
  intro j v h
  have hj := (List.getElem?_eq_some_iff.1 h).1
  rw [List.getElem?_toArray]
  unfold athCells
  rw [List.append_assoc, List.getElem?_append_right (by simp), List.getElem?_append_left (by simp; omega)]
  simpa using h
set_option maxHeartbeats 8000000 in
theorem awrite_any (A : Ath) (w : World) (hk : A.host.kind ≠ 0) (ok : HstOk A.host) (hp : 0 ≤ A.port ∧ A.port ≤ 65535) (hu : A.user.length ≤ 100000) (hps : A.pass.length ≤ 100000) (hn : A.host.name.length ≤ 100000) (hE : NE w) :
    Calls Tryz.prog 11 #[.agg (aCells A)] w fun e w' => e = .returned (S (wtF A)) ∧ Below w.heap.size w w' := by
  have h8 := ok.l
  have hser := fun (W : World) (hW : Below w.heap.size w W) => swr_any (uOf A) (uCells nilV (uOf A)) nilV false W (urlAt_of nilV ⟨ok, by have := hp.1; have := hp.2; show -9223372036854775808 ≤ A.port ∧ A.port ≤ 9223372036854775807; omega⟩) Sl.nil ⟨by simp [uOf, U0], hu, hps, hn, by simp [uOf, U0], by simp [uOf, U0, joinP], by simp [uOf, U0], by simp [uOf, U0]⟩ (hE.below hW)
  rw [ser_wt hk] at hser
  obtain ⟨c0, c1, c13, c14, _⟩ := ath_cells A h8
  have HC := Lib.hid (And.intro c0 (And.intro c1 (And.intro c13 c14)))
  have H8 := Lib.hid h8
  have HI := Lib.hid (show (Tryz.prog.info? 27).map (·.size) = some (hstCells A.host).length by rw [host_info]; simp [hstCells, h8])
  have HAH := Lib.hid (ath_hst A)
  obtain ⟨z, hz⟩ : ∃ z, z = bs (58 :: 47 :: 47 :: wtF A) := ⟨_, rfl⟩
  have hzl : z.size = (wtF A).length + 3 := by rw [hz, bs_size]; rfl
  have hz3 : z.extract 3 z.size = bs (wtF A) := by
    rw [hz, bs_extract, bs_size, List.take_of_length_le (by rw [List.length_drop]; omega)]
    rfl
  have HSER := Lib.hid (show ∀ W, Below w.heap.size w W → Calls Tryz.prog 24 #[.agg (uCells nilV (uOf A)), .bool false] W fun e w' => e = .returned (.string z) ∧ Below W.heap.size W w' from by rw [hz]; exact hser)
  obtain ⟨N, hN⟩ : ∃ N, N = z.size := ⟨_, rfl⟩
  have hzN : z.size = N := hN.symm
  rw [hzN] at hz3
  have h3 : 3 ≤ N := by omega
  have hmin : min (N : Int) 3 = 3 := by omega
  have hle : ¬ (N : Int) < 3 := by omega
  have h3i : (3 : Int) ≤ N := by omega
  obtain ⟨t, ht⟩ : ∃ t, t = bs (wtF A) := ⟨_, rfl⟩
  rw [← ht] at hz3
  have HT := Lib.hid ht
  clear ht hz hzl hN hser hk ok hp hu hps hn hE c0 c1 c13 c14 h8
  go_enter Tryz.func11, Tryz.ntmps11
  go_upto_region 1 with (first
    | (refine boxed rfl _ _ rfl (aCells A) rfl ?_; intro bx w2 hb1 hb2 hb3 hb4 hb5; have HX := Lib.hid (show CB w2 bx 29 (aCells A) from ⟨hb3⟩); have HB2 := Lib.hid hb5; clear hb1 hb2 hb3 hb4 hb5)
    | fail)
  have c0 := HX.out.cell_is HC.out.1
  have c1 := HX.out.cell_is HC.out.2.1
  have c13 := HX.out.cell_is HC.out.2.2.1
  have c14 := HX.out.cell_is HC.out.2.2.2
  go_upto_region 2 with (first
    | (refine wpList_load_mid rfl 27 _ rfl bx 2 rfl (hstCells A.host) _ (HX.out.range HAH.out) Tryz.underlying27 rfl HI.out ?_)
    | (refine bldUA_to rfl (.tmp 6) (.tmp 8) (.tmp 10) (.tmp 12) (.tmp 14) rfl A H8.out rfl rfl rfl rfl rfl ?_)
    | (refine alloc_to rfl 37 rfl _ _ (allUrl _) ?_)
    | (refine storeUrl rfl (.tmp 3) (.tmp 15) rfl nilV (uOf A) H8.out rfl rfl rfl rfl ?_; intro w3 hh hb; have HU := Lib.hid hh; have HB3 := Lib.hid (stp HB2.out hb); clear hh hb)
    | fail)
  clear c0 c1 c13 c14
  go_upto_region 3 with (first
    | (refine loadUrl rfl (.tmp 3) rfl _ nilV (uOf A) H8.out rfl HU.out ?_)
    | (go_at_call 24; refine (HSER.out _ HB3.out).mono ?_; rintro e w4 ⟨rfl, hb⟩; have HB4 := Lib.hid (stp HB3.out hb); clear hb)
    | fail)
  go_wp2_with fail
  go_ret
  exact ⟨by rw [HT.out]; rfl, HB4.out⟩
end Go.Proofs.YtjgenpooedkfmaaGreatDoor

/- Who is asked, written and read again: lengths and parts (plain). -/
namespace Go.Proofs.YtjgenpooedkfmaaGreatDoor
open Go.RowKit
set_option maxRecDepth 10000

theorem st_ulen {l s u p : Bytes} (h : stF l = some (s, u, p)) : u.length ≤ 3 * l.length ∧ p.length ≤ 3 * l.length := by
  unfold stF at h
  cases ha : atF l with
  | none =>
    rw [ha] at h
    injection h with h
    injection h with h1 h2
    injection h2 with h2 h3
    rw [← h2, ← h3]
    simp
  | some v =>
    obtain ⟨who, rest⟩ := v
    rw [ha] at h
    dsimp only at h
    split at h
    · cases h
    · injection h with h
      injection h with h1 h2
      injection h2 with h2 h3
      have hw : who.length ≤ l.length := by
        rw [(at_is ha).1]
        simp
      have hc := congrArg List.length (cut1_is 58 who)
      have hq : (cut1 58 who).2.2 = false → (cut1 58 who).2.1 = [] := cut1_flag 58 _
      rw [List.length_append] at hc
      have k1 : (cutF who).1.length ≤ who.length ∧ (cutF who).2.length ≤ who.length := by
        rw [cutF1]
        dsimp only
        by_cases hf : (cut1 58 who).2.2 = true
        · rw [if_pos hf, List.length_cons] at hc
          omega
        · rw [hq (by simpa using hf)]
          simp only [List.length_nil]
          omega
      have k2 := pcB_len 5 (cutF who).1
      have k3 := pcB_len 5 (cutF who).2
      rw [← h2, ← h3]
      omega
/-- what was read of a text: how long it may be -/
theorem auth_len {sch s : Bytes} {a : Ath} (h : authF sch s = some a) : a.user.length ≤ 3 * s.length ∧ a.pass.length ≤ 3 * s.length ∧ ∃ n, n.length ≤ s.length ∧ hostP n (spF sch) = some a.host := by
  rw [auth_st] at h
  cases hs : stF s with
  | none => rw [hs] at h; cases h
  | some v =>
    obtain ⟨s2, u, p⟩ := v
    rw [hs] at h
    dsimp only at h
    rw [rest_nq] at h
    have hl := st_len hs
    have hu := st_ulen hs
    cases hn : nqF s2 with
    | none => rw [hn] at h; cases h
    | some v =>
      obtain ⟨n, q⟩ := v
      rw [hn] at h
      dsimp only at h
      have hnl := nq_len hn
      unfold finF at h
      cases hh : hostP n (spF sch) with
      | none => rw [hh] at h; cases h
      | some g =>
        rw [hh] at h
        dsimp only at h
        cases hq : apF sch q with
        | none => rw [hq] at h; cases h
        | some v =>
          obtain ⟨k, b⟩ := v
          rw [hq] at h
          injection h with h
          subst h
          exact ⟨hu.1, hu.2, n, by omega, hh⟩
theorem nq_col (s : Bytes) : nqF s = match colF false s with | none => some (s, []) | some (n, q) => if n = [] then none else some (n, q) := by
  unfold nqF
  rw [col_n]
  cases colN false s with
  | none => rfl
  | some k => rfl
/-- the name in what was written -/
theorem wt_parts {sch s : Bytes} {a : Ath} (h : authF sch s = some a) {s2 u p n q : Bytes} (h1 : stF (wtF a) = some (s2, u, p)) (h2 : nqF s2 = some (n, q)) : n = hostF a.host := by
  have ok := auth_ok h
  obtain ⟨⟨m, hh, hn⟩, _, _, hq⟩ := ok
  have hno : (64 : UInt8) ∉ hostF a.host ++ portT a := fun hm => by
    rcases List.mem_append.mp hm with hm | hm
    · exact host_at hh hm
    · exact port_no hq hm
  have e2 : s2 = hostF a.host ++ portT a := by
    unfold stF at h1
    by_cases hw : a.user = [] ∧ a.pass = []
    · have e : wtF a = hostF a.host ++ portT a := by unfold wtF whoT; rw [if_pos hw]; simp
      rw [e, at_none hno] at h1
      injection h1 with h1
      injection h1 with h1 _
      exact h1.symm
    · have e : wtF a = (a.user ++ (if a.pass = [] then [] else 58 :: a.pass)) ++ 64 :: (hostF a.host ++ portT a) := by unfold wtF whoT; rw [if_neg hw]; simp
      rw [e, at_split _ hno] at h1
      dsimp only at h1
      split at h1
      · cases h1
      · injection h1 with h1
        injection h1 with h1 _
        exact h1.symm
  rw [nq_col, e2, host_col hh] at h2
  have ep : colF false (portT a) = none ∧ portT a = [] ∨ ∃ d, colF false (portT a) = some ([], d) := by
    rcases hq with ⟨q1, _⟩ | ⟨q1, _⟩
    · left
      have : portT a = [] := by unfold portT; rw [if_neg (by simp [q1])]
      rw [this]
      exact ⟨rfl, rfl⟩
    · right
      have : portT a = 58 :: Lib.itoa a.port := by unfold portT; rw [if_pos q1]
      rw [this]
      exact ⟨_, by rw [colF, if_pos ⟨rfl, rfl⟩]⟩
  rcases ep with ⟨e1, e3⟩ | ⟨d, e1⟩
  · rw [e1, e3] at h2
    simp only [Option.map_none, List.append_nil] at h2
    injection h2 with h2
    injection h2 with h2 _
    exact h2.symm
  · rw [e1] at h2
    simp only [Option.map_some, List.append_nil] at h2
    split at h2
    · cases h2
    · injection h2 with h2
      injection h2 with h2 _
      exact h2.symm
theorem name_le {s : Bytes} {sp : Bool} {h : Hst} (e : HKind s sp h) : h.name.length ≤ (hostF h).length := by
  cases e with
  | six a h8 ha hs => simp [H0]
  | name n e hs hd hn hb he => exact Nat.le_refl _
  | four n e hs h => simp [H0]
  | empty e h => simp [H0]
  | opaq e hs h hb => exact Nat.le_refl _
/-- AuthorityBack: lengths -/
theorem wt_small {sch s : Bytes} {a : Ath} (h : authF sch s = some a) (hs : s.length ≤ 300) : (wtF a).length ≤ 200000 ∧ a.user.length ≤ 100000 ∧ a.pass.length ≤ 100000 ∧ a.host.name.length ≤ 100000 ∧ Short (hostF a.host) := by
  obtain ⟨hu, hp, n, hn, hh⟩ := auth_len h
  have hk := hkind hh
  have hb := back_len hk (by omega)
  have hsh := back_short hk (by omega)
  have hnm := name_le hk
  obtain ⟨_, _, _, q⟩ := auth_ok h
  have hpt : (portT a).length ≤ 22 := by
    unfold portT
    split
    · have := itoa_len a.port (by rcases q with ⟨_, q⟩ | ⟨_, q1, q2, _⟩ <;> omega) (by rcases q with ⟨_, q⟩ | ⟨_, q1, q2, _⟩ <;> omega)
      rw [List.length_cons]; omega
    · simp
  have hw : (whoT a).length ≤ a.user.length + a.pass.length + 2 := by
    unfold whoT
    split
    · simp
    · split <;> simp <;> omega
  refine ⟨?_, by omega, by omega, by omega, hsh⟩
  unfold wtF
  rw [List.length_append, List.length_append]
  omega
theorem aparse_back {sch s : Bytes} {a : Ath} (h : authF sch s = some a) (hs : s.length ≤ 300) (w : World) (hE : Env w) : Calls Tryz.prog 10 #[.string (bs sch), .string (bs (wtF a))] w fun e w' => e = .returned (.tuple #[.agg (aCells a), .bool true]) ∧ Below w.heap.size w w' := by
  have hw := wt_small h hs
  have hg := aparse_gen sch (wtF a) w (by omega) (fun s2 u p n q h1 h2 => by rw [wt_parts h h1 h2]; exact hw.2.2.2.2) hE
  rw [auth_back h] at hg
  exact hg
end Go.Proofs.YtjgenpooedkfmaaGreatDoor
