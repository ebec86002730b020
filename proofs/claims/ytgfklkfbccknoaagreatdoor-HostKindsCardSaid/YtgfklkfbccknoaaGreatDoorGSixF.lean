/- SixF SixG: joined. -/
import Derived.Test.YtgfklkfbccknoaaGreatDoorGSixA
import Derived.Recover
import Derived.Laws.CopyOwn
import Derived.Laws.Pointers
/- The two variables that six.Parse answers with, and the closure that recovers. -/
namespace Go.Proofs.YtgfklkfbccknoaaGreatDoor
open Go.RowKit
set_option maxRecDepth 10000

/-- the address and whether there is one, in blocks b and b + 1 -/
structure Two (w : World) (b : Nat) (cs : List Int) (q : Bool) (wr : World) : Prop where
  a : wr.heap[b]? = some (.cells (U16s cs).toArray 24 (0, 0))
  ok : wr.heap[b + 1]? = some (.cells #[.bool q] 4 (0, 0))
  len : cs.length = 8
  bel : Below w.heap.size w wr
theorem Two.lt {w : World} {b : Nat} {cs : List Int} {q : Bool} {wr : World} (h : Two w b cs q wr) : b + 1 < wr.heap.size := (Array.getElem?_eq_some_iff.1 h.ok).1
theorem Two.below {w : World} {b : Nat} {cs : List Int} {q : Bool} {wr w2 : World} (h : Two w b cs q wr) (hb : w.heap.size ≤ b) (h2 : Below wr.heap.size wr w2) : Two w b cs q w2 := by
  have := h.lt
  exact ⟨(h2.block b (by omega)).trans h.a, (h2.block (b + 1) (by omega)).trans h.ok, h.len, h.bel.trans (h2.mono (by omega))⟩
theorem Two.row {w : World} {b : Nat} {cs ds : List Int} {q : Bool} {wr : World} (h : Two w b cs q wr) (hb : w.heap.size ≤ b) (hd : ds.length = 8) : Two w b ds q (wr.setRow b (U16s ds).toArray) :=
  ⟨setRow_heap wr b _ _ _ _ h.a, (setRow_other wr b (b + 1) _ (by omega)).trans h.ok, hd, below_setRow h.bel hb _⟩
theorem Two.set {w : World} {b : Nat} {cs : List Int} {q : Bool} {wr : World} (h : Two w b cs q wr) (hb : w.heap.size ≤ b) (p : Bool) : Two w b cs p (wr.setCell ⟨b + 1, 0, none⟩ (.bool p)) := by
  have e := setCell_eq_setRow wr (b + 1) 0 _ _ _ (.bool p) h.ok
  rw [e]
  exact ⟨(setRow_other wr (b + 1) b _ (by omega)).trans h.a, setRow_heap wr (b + 1) _ _ _ _ h.ok, h.len, below_setRow h.bel (by omega) _⟩
theorem Two.cell {w : World} {b : Nat} {cs : List Int} {q : Bool} {wr : World} (h : Two w b cs q wr) : wr.cell? ⟨b + 1, 0, none⟩ = some (.bool q) ∧ wr.frozen? ⟨b + 1, 0, none⟩ = false := by
  constructor
  · simp [World.cell?, h.ok]
  · simp [World.frozen?, h.ok]
def Z8 : List Int := [0, 0, 0, 0, 0, 0, 0, 0]
theorem all8z (w : World) : (Instr.alloc 24 true (Value.tuple #[])).run Tryz.prog w = .ok (.pointer (some ⟨w.heap.size, 0, none⟩)) (w.alloc (.cells (U16s Z8).toArray 24)) := by kernel_rfl
theorem bld8 : ∀ w, (Instr.build 24 #[]).run Tryz.prog w = .ok (.agg (U16s Z8).toArray) w := fun w => by kernel_rfl
theorem size8 : (Tryz.prog.info? 24).map (·.size) = some 8 := by kernel_rfl
theorem one8 (cs : List Int) : (U16s cs).toArray.all (·.oneCell') = true := by
  rw [Array.all_eq_true]
  intro i hi
  simp [Value.oneCell']
theorem two_fresh (w : World) : Two w w.heap.size Z8 false ((w.alloc (.cells (U16s Z8).toArray 24)).alloc (.cells #[.bool false] 4)) := by
  refine ⟨?_, ?_, rfl, ((Below.refl _ w).alloc (Nat.le_refl _) _).alloc (by simp) _⟩
  · rw [Below.heap_alloc _ _ _ (by simp), heap_alloc_new]
  · have := heap_alloc_new (w.alloc (.cells (U16s Z8).toArray 24)) (.cells #[.bool false] 4)
    simpa using this
set_option maxHeartbeats 2000000 in
theorem catch_stop (w0 : World) (b : Nat) (cs : List Int) (q : Bool) (u : TypeId) (pv : Value) (older : List PanicEntry) (w : World) (h : Two w0 b cs q w) (hb : w0.heap.size ≤ b) :
    CallsD Tryz.prog 59 #[.pointer (some ⟨b, 0, none⟩), .pointer (some ⟨b + 1, 0, none⟩)] (.panicking ({ v := .iface u pv, recovered := false } :: older)) w fun e u' w' =>
      e = .returned (.tuple #[]) ∧ u' = .panicking ({ v := .iface u pv, recovered := true } :: older) ∧ Two w0 b Z8 false w' := by
  refine callsD_of_wpS Tryz.func59 rfl fun c₀ cs hu => ?_
  apply wpS_seq
  apply wpS_region
  simp [wpOpsS, go_sem, recoverD, hu, Tryz.ntmps59, Exit.thenS]
  refine wpS_cond (t := true) (by simp [Act.eval, Array.replicate]) ?_
  simp only [if_true]
  refine wpS_of_wp ?_
  have HT := Lib.hid h; clear h
  go_wp2_with (first
    | (refine build_to rfl 24 #[] rfl (.agg (U16s Z8).toArray) #[] rfl bld8 ?_)
    | (refine wpList_store_row rfl 24 (.tmp 0) (.tmp 4) rfl b (U16s Z8).toArray rfl rfl _ _ HT.out.a (by rw [size8]; rfl) (by simp [HT.out.len, Z8]) (one8 _) ?_
       have ht2 := HT.out.row (ds := Z8) hb rfl
       revert ht2
       generalize w.setRow b (U16s Z8).toArray = w2
       intro ht2
       obtain ⟨hc2, hz2⟩ := ht2.cell
       have HT2 := Lib.hid ht2; clear ht2)
    | fail)
  simp only [bodyPostS]
  exact ⟨trivial, _, rfl, .tuple #[], by simp [results, Tryz.results59], rfl, rfl, HT2.out.set hb false⟩
theorem catch_idle (p r : Addr) (w : World) :
    CallsD Tryz.prog 59 #[.pointer (some p), .pointer (some r)] .returning w fun e u' w' => e = .returned (.tuple #[]) ∧ u' = .returning ∧ w' = w := by
  refine callsD_of_wpS Tryz.func59 rfl fun c₀ cs hu => ?_
  apply wpS_seq
  apply wpS_region
  simp [wpOpsS, go_sem, recoverD, hu, Tryz.ntmps59, Exit.thenS]
  refine wpS_cond (t := false) (by simp [Act.eval, Array.replicate]) ?_
  simp only [Bool.false_eq_true, if_false]
  refine wpS_of_wp (wp_skip ?_)
  cases c₀
  simp_all [bodyPostS, results, Tryz.results59]
end Go.Proofs.YtgfklkfbccknoaaGreatDoor

/- six.Parse: what it answers; what panics within is no address. -/
namespace Go.Proofs.YtgfklkfbccknoaaGreatDoor
open Go.RowKit
set_option maxRecDepth 10000

abbrev sixE (o : Option (List Int)) : Ending := .returned (.tuple #[.agg (U16s (o.getD Z8)).toArray, .bool o.isSome])
/-- 'copy' into the address -/
theorem copy_to {ops : Array Oper} {rest : List Oper} {o : Oper} {a : Act} {w : World} {Q : Exit → Act → World → Prop} (hgd : o.guard = none) (d s : Operand) (dT sT : TypeId)
    (ho : o.op = .call { callee := .builtin .copy, args := #[d, s], argTypes := #[dT, sT] }) (elem : TypeId) (hu : Tryz.prog.underlying dT = some (.slice elem)) (hsz : (Tryz.prog.info? elem).map (·.size) = some 1)
    (w0 : World) (g : Nat) (cs : List Int) (q : Bool) (hT : Two w0 g cs q w) (hg : w0.heap.size ≤ g) (off dLen dCap : Nat) (hd : a.eval d = .slice (some ⟨g, off, none⟩) dLen dCap)
    (sp : Option Addr) (sLen sCap : Nat) (hs : a.eval s = .slice sp sLen sCap) (l : List Int) (hl : l.length = sLen) (B : Nat) (hsrc : Sl B w (.slice sp sLen sCap) (U16s l)) (hfit : off + sLen ≤ 8) (hdl : sLen ≤ dLen)
    (h : ∀ w', Two w0 g (splice cs off l) q w' → w.grownBy w' (some g) → wpList Tryz.prog ops Q rest (a.put o.dst (goInt sLen)) w') : wpList Tryz.prog ops Q (o :: rest) a w := by
  by_cases h0 : l = []
  · subst h0
    obtain rfl : sLen = 0 := hl.symm
    refine wpList_copy_nothing hgd d s dT sT ho elem hu hsz _ _ _ _ _ _ hd hs (Nat.zero_min _) ?_
    have e : splice cs off [] = cs := by simp [splice]
    exact h w (by rw [e]; exact hT) ⟨rfl, rfl, rfl, Nat.le_refl _, fun _ _ _ => rfl⟩
  · have hn0 : sLen ≠ 0 := fun e => h0 (List.eq_nil_of_length_eq_zero (by omega))
    obtain ⟨c', _, _, hx⟩ := hsrc
    rcases hx with ⟨hx, _⟩ | ⟨b', o', _, hv, hat⟩
    · exact absurd (by simpa using hx) h0
    · injection hv with e1 e2 e3
      subst e1
      have hcl : (U16s cs).toArray.size = 8 := by simp [hT.len]
      have hfin := fun h' : _ => h (w.setRow g (U16s (splice cs off l)).toArray) (hT.row hg (by rw [length_splice _ _ _ (by rw [hT.len]; omega)]; exact hT.len)) h'
      refine wpList_copy_own hgd d s dT sT ho elem hu hsz g off dLen dCap ⟨b', o', none⟩ sLen sCap hd hs (U16s cs).toArray _ hT.a (U16s l) (by rw [List.length_map, hl]; exact (Nat.min_eq_left hdl).symm) ?_ (by rw [List.length_map, hcl]; omega) ?_ ?_
      · intro j v hj
        have hjl : j < (U16s l).length := (List.getElem?_eq_some_iff.mp hj).1
        rw [addr_add, hat j hjl, ← List.getElem?_eq_getElem hjl, hj]
      · intro v hv
        obtain ⟨n, _, rfl⟩ := List.mem_map.mp hv
        rfl
      · have e : ((U16s cs).toArray.toList.take off ++ (U16s l ++ (U16s cs).toArray.toList.drop (off + (U16s l).length))).toArray = (U16s (splice cs off l)).toArray := by
          simp [splice, List.map_take, List.map_drop]
        rw [e, show (U16s l).length = sLen by rw [List.length_map, hl]]
        exact hfin ⟨rfl, rfl, rfl, by simp [World.setRow], fun k hk hne => setRow_other w g k _ (fun e => hne (by rw [e]))⟩
theorem six_res {tmps : Array Value} {w w2 : World} {g : Nat} {cs : List Int} {q : Bool} (h2 : tmps.getD 2 undef = .pointer (some ⟨g, 0, none⟩)) (h3 : tmps.getD 3 undef = .pointer (some ⟨g + 1, 0, none⟩)) (h : Two w g cs q w2) :
    (results Tryz.f40 tmps).run Tryz.prog w2 = .ok (.tuple #[.agg (U16s cs).toArray, .bool q]) w2 := by
  have h2' : tmps[2]?.getD undef = .pointer (some ⟨g, 0, none⟩) := by simpa using h2
  have h3' : tmps[3]?.getD undef = .pointer (some ⟨g + 1, 0, none⟩) := by simpa using h3
  have hl := run_loadVar_row (P := Tryz.prog) w2 g 24 24 (U16s cs).toArray (0, 0) _ h.a Tryz.underlying24 rfl (by rw [size8]; simp [h.len])
  obtain ⟨hc, hz⟩ := h.cell
  have hlb : (loadVar 4 ⟨g + 1, 0, none⟩).run Tryz.prog w2 = .ok (.bool q) w2 := by simp [go_sem, hc]
  simp [results, Tryz.results40, asAddr, h2', h3', hl, hlb]
theorem u16_size : (Tryz.prog.info? 23).map (·.size) = some 1 := by kernel_rfl
/-- what panics within is no address -/
theorem leave_stop {tmps : Array Value} {w w3 : World} {g : Nat} {cs : List Int} {q : Bool} (h2 : tmps.getD 2 undef = .pointer (some ⟨g, 0, none⟩)) (h3 : tmps.getD 3 undef = .pointer (some ⟨g + 1, 0, none⟩)) (h : Two w g cs q w3) (hg : w.heap.size ≤ g) {R : Option (List Int)} (hR : R = none) :
    bodyPostD Tryz.prog Tryz.f40 (fun e w' => e = sixE R ∧ Below w.heap.size w w') (Exit.panic [{ v := .iface 108 (.agg #[]), recovered := false }])
      { tmps := tmps, defers := [{ target := .fn (.func 59) #[.pointer (some ⟨g, 0, none⟩), .pointer (some ⟨g + 1, 0, none⟩)], args := #[] }] } w3 := by
  subst hR
  refine leaves_cons (f := 59) (args := #[.pointer (some ⟨g, 0, none⟩), .pointer (some ⟨g + 1, 0, none⟩)]) (by simp) (by simp [go_sem]) ?_
  refine (catch_stop w g cs q _ _ [] w3 h hg).mono ?_
  rintro e u' w4 ⟨rfl, rfl, h4⟩
  exact ⟨_, six_res h2 h3 h4, rfl, h4.bel⟩
theorem leave_ret {tmps : Array Value} {w w3 : World} {g : Nat} {cs : List Int} {q : Bool} (h2 : tmps.getD 2 undef = .pointer (some ⟨g, 0, none⟩)) (h3 : tmps.getD 3 undef = .pointer (some ⟨g + 1, 0, none⟩)) (h : Two w g cs q w3) {R : Option (List Int)} (hR : cs = R.getD Z8) (hq : q = R.isSome) :
    bodyPostD Tryz.prog Tryz.f40 (fun e w' => e = sixE R ∧ Below w.heap.size w w') Exit.ret
      { tmps := tmps, defers := [{ target := .fn (.func 59) #[.pointer (some ⟨g, 0, none⟩), .pointer (some ⟨g + 1, 0, none⟩)], args := #[] }] } w3 := by
  refine leaves_cons (f := 59) (args := #[.pointer (some ⟨g, 0, none⟩), .pointer (some ⟨g + 1, 0, none⟩)]) (by simp) (by simp [go_sem]) ?_
  refine (catch_idle _ _ w3).mono ?_
  rintro e u' w4 ⟨rfl, rfl, rfl⟩
  exact ⟨_, six_res h2 h3 h, by rw [hR, hq], h.bel⟩
theorem slice8 (b K N : Nat) (h : K + N = 8) : ∃ o', o' + N ≤ 8 ∧ (N ≠ 0 → o' = K) ∧ ∀ W, (Instr.sliceAt 24 (.pointer (some ⟨b, 0, none⟩)) (some (.int .i64 (K : Int))) none none).run Tryz.prog W = .ok (.slice (some ⟨b, o', none⟩) N N) W := by
  have hk : ((K : Int)).toNat = K := rfl
  have hrun := fun W => run_sliceAt_array_l (P := Tryz.prog) W 24 ⟨b, 0, none⟩ Tryz.underlying24 .i64 (K : Int) (by omega) (by show (K : Int) ≤ 8; omega)
  have hsz : ∀ W, (sizeOf (Tryz.prog.elem 24)).run Tryz.prog W = .ok 1 W := fun W => by
    obtain ⟨i, hi, _, hs, _⟩ := info_parts u16_info
    exact run_size hi hs W
  by_cases hN : N = 0
  · subst hN
    refine ⟨0, by omega, fun h => absurd rfl h, fun W => ?_⟩
    rw [hrun, hsz]
    have hK : K = 8 := by omega
    subst hK
    rfl
  · refine ⟨K, by omega, fun _ => rfl, fun W => ?_⟩
    rw [hrun, hsz]
    show Result.ok (slicedAt ⟨b, 0, none⟩ K 8 8 1) W = _
    unfold slicedAt
    rw [if_neg (by omega), show (⟨b, 0, none⟩ : Addr).add (K * 1) = ⟨b, K, none⟩ by rw [addr_add]; simp, show 8 - K = N by omega]
theorem splice_two {u v : List Int} {o' K : Nat} (hK : K + v.length = 8) (hL : u.length + v.length < 8) (ho : v.length ≠ 0 → o' = K) (ho2 : o' + v.length ≤ 8) :
    splice (splice Z8 0 u) o' v = u ++ List.replicate (8 - u.length - v.length) 0 ++ v := by
  have e1 : splice Z8 0 u = u ++ List.replicate (8 - u.length) 0 := by
    unfold splice
    have : Z8 = List.replicate 8 0 := rfl
    rw [this, List.take_zero, List.nil_append, List.drop_replicate, Nat.zero_add]
  rw [e1]
  unfold splice
  by_cases hv : v = []
  · subst hv
    simp only [List.length_nil, Nat.add_zero, List.nil_append, List.take_append_drop, Nat.sub_zero, List.append_nil]
  · have hvl : v.length ≠ 0 := fun e => hv (List.eq_nil_of_length_eq_zero e)
    rw [ho hvl, List.take_append, List.take_of_length_le (by omega), List.take_replicate, List.drop_of_length_le (by simp; omega), List.append_nil]
    congr 2
    congr 1
    omega
theorem own_off {w : World} {base e n : Nat} {v : Value} {xs : List Value} (h : w.ownsRow base e 1 v n xs) {g : Nat} (hg : g < base) : v.ownBlock = none ∨ v.ownBlock ≠ some g := by
  rcases h.2 with ⟨rfl, _⟩ | ⟨k, cap, cur, rfl, hk, _⟩
  · exact .inl rfl
  · right
    intro e
    simp only [Value.ownBlock, Option.some.injEq] at e
    omega
set_option maxHeartbeats 20000000 in
theorem sixparse_any (l : Bytes) (w : World) (hl : l.length ≤ 1000000) (hE : Env w) : Calls Tryz.prog 40 #[.string (bs l)] w fun e w' => e = sixE (sixPF l) ∧ Below w.heap.size w w' := by
  have hmf : ∀ (fn : Fn) (first cap : Array Value) (w : World), (Instr.makeFunc fn first cap).run Tryz.prog w = .ok (.func fn first cap) w := fun _ _ _ _ => rfl
  have hcu := fun W (h : Below w.heap.size w W) => scut_any l [58, 58] W hl (hE.below h)
  rw [show bs [58, 58] = ⟨#[58, 58]⟩ from rfl, lcut_two] at hcu
  have hr1 := fun W (h : Below w.heap.size w W) => row_any l true W hl (hE.below h)
  obtain ⟨R, hR⟩ : ∃ R, R = sixPF l := ⟨_, rfl⟩
  rw [← hR]
  unfold sixPF at hR
  have hlen : ∀ a b, cut2 l = some (a, b) → a.length ≤ 1000000 ∧ b.length ≤ 1000000 := by
    intro a b h
    have h1 := cut_rest l [58, 58]
    rw [lcut_two, h] at h1
    dsimp only at h1
    omega
  have hra := fun a b (h : cut2 l = some (a, b)) W (hw : Below w.heap.size w W) => row_any a false W (hlen a b h).1 (hE.below hw)
  have hrb := fun a b (h : cut2 l = some (a, b)) W (hw : Below w.heap.size w W) => row_any b true W (hlen a b h).2 (hE.below hw)
  clear hlen hE hl
  have tw := two_fresh w
  obtain ⟨s, hs⟩ : ∃ s, s = bs l := ⟨_, rfl⟩
  rw [← hs] at hcu hr1 ⊢
  have HS := Lib.hid hs; clear hs
  have HR := Lib.hid hR; clear hR
  have HTW := Lib.hid tw; clear tw
  cases hc : cut2 l with
  | none =>
    rw [hc] at hcu HR
    have HCU := Lib.hid hcu; clear hcu
    clear hra hrb hc
    cases hrr : rowF true l with
    | none =>
      rw [hrr] at hr1 HR
      change ∀ W, Below w.heap.size w W → Calls _ _ _ W fun e w' => e = NoP ∧ Below W.heap.size W w' at hr1
      have HR1 := Lib.hid hr1; clear hr1 hrr
      go_enter_defers Tryz.func40, Tryz.ntmps40
      go_wp2_with (first
        | (refine alloc_to rfl 24 rfl _ _ (all8z _) ?_)
        | (go_at_call 60; refine (HCU.out _ HTW.out.bel).mono ?_; rintro e w2 ⟨rfl, hb2⟩; have HT2 := Lib.hid (HTW.out.below (Nat.le_refl _) hb2); clear hb2)
        | (go_at_call 61; refine (HR1.out _ HT2.out.bel).mono ?_; rintro e w3 ⟨rfl, hb3⟩; have HT3 := Lib.hid (HT2.out.below (Nat.le_refl _) hb3); clear hb3)
        | fail)
      exact leave_stop rfl rfl HT3.out (Nat.le_refl _) HR.out
    | some v =>
      rw [hrr] at hr1 HR
      change ∀ W, Below w.heap.size w W → Calls _ _ _ W fun e w' => (∃ x, e = .returned x ∧ w'.ownsRow W.heap.size 23 1 x v.length (U16s v)) ∧ Below W.heap.size W w' at hr1
      have HR1 := Lib.hid hr1; clear hr1
      have HRG := Lib.hid (rowF_range hrr); clear hrr
      obtain ⟨N, hN⟩ : ∃ N, N = v.length := ⟨_, rfl⟩
      have hN8 : N ≤ 8 := by rw [hN]; exact HRG.out.2
      have hr := HR.out
      dsimp only at hr
      rw [← hN] at hr
      have HR := Lib.hid hr; clear hr
      have HN := Lib.hid hN; clear hN
      by_cases h8 : N = 8
      · rw [if_pos h8] at HR
        subst h8
        go_enter_defers Tryz.func40, Tryz.ntmps40
        go_wp2_with (first
          | (refine alloc_to rfl 24 rfl _ _ (all8z _) ?_)
          | (go_at_call 60; refine (HCU.out _ HTW.out.bel).mono ?_; rintro e w2 ⟨rfl, hb2⟩; have HT2 := Lib.hid (HTW.out.below (Nat.le_refl _) hb2); clear hb2)
          | (go_at_call 61; refine (HR1.out _ HT2.out.bel).mono ?_; rintro e w3 ⟨⟨x, rfl, ho3⟩, hb3⟩; rw [← HN.out] at ho3; obtain ⟨av, cv, hv⟩ := own_val ho3; subst hv; have HO3 := Lib.hid (Sl.of_own ho3); clear ho3; have HT3 := Lib.hid (HT2.out.below (Nat.le_refl _) hb3); clear hb3)
          | ((refine copy_to rfl (.tmp 25) (.tmp 26) _ _ rfl 23 Tryz.underlying80 u16_size w w.heap.size Z8 false HT3.out (Nat.le_refl _) 0 8 8 rfl av 8 cv rfl v HN.out.symm _ HO3.out (by omega) (by omega) ?_); intro w4 ht4 hg4; rw [show splice Z8 0 v = v by unfold splice; rw [← HN.out]; simp [Z8]] at ht4; have HT4 := Lib.hid ht4; clear ht4 hg4)
          | (refine wpList_load_row rfl 24 (.tmp 2) rfl w.heap.size rfl _ _ _ _ HT4.out.a Tryz.underlying24 rfl (by rw [size8]; simp [HT4.out.len]) ?_)
          | (refine wpList_store_row rfl 24 (.tmp 2) (.tmp 28) rfl w.heap.size (U16s v).toArray rfl rfl _ _ HT4.out.a (by rw [size8]; simp [HT4.out.len]) (by simp) (one8 _) ?_
             have ht5 := HT4.out.row (ds := v) (Nat.le_refl _) HT4.out.len
             revert ht5
             generalize World.setRow _ w.heap.size (U16s v).toArray = w5
             intro ht5
             obtain ⟨hc5, hz5⟩ := ht5.cell
             have HT5 := Lib.hid ht5; clear ht5)
          | fail)
        exact leave_ret rfl rfl (HT5.out.set (Nat.le_refl _) true) (by rw [HR.out]; rfl) (by rw [HR.out]; rfl)
      · rw [if_neg h8] at HR
        have h8' : ((N : Int) == 8) = false := by simp; omega
        go_enter_defers Tryz.func40, Tryz.ntmps40
        go_wp2_with (first
          | (refine alloc_to rfl 24 rfl _ _ (all8z _) ?_)
          | (go_at_call 60; refine (HCU.out _ HTW.out.bel).mono ?_; rintro e w2 ⟨rfl, hb2⟩; have HT2 := Lib.hid (HTW.out.below (Nat.le_refl _) hb2); clear hb2)
          | (go_at_call 61; refine (HR1.out _ HT2.out.bel).mono ?_; rintro e w3 ⟨⟨x, rfl, ho3⟩, hb3⟩; rw [← HN.out] at ho3; obtain ⟨av, cv, hv⟩ := own_val ho3; subst hv; have HO3 := Lib.hid (Sl.of_own ho3); clear ho3; have HT3 := Lib.hid (HT2.out.below (Nat.le_refl _) hb3); clear hb3)
          | (refine build_to rfl 24 #[] rfl (.agg (U16s Z8).toArray) #[] rfl bld8 ?_)
          | (refine wpList_store_row rfl 24 (.tmp 2) (.tmp 24) rfl _ (U16s Z8).toArray rfl rfl _ _ HT3.out.a (by rw [size8]; rfl) (by simp [Z8]) (one8 _) ?_
             have ht4 := HT3.out.row (ds := Z8) (Nat.le_refl _) rfl
             revert ht4
             generalize World.setRow _ w.heap.size (U16s Z8).toArray = w4
             intro ht4
             obtain ⟨hc4, hz4⟩ := ht4.cell
             have HT4 := Lib.hid ht4; clear ht4)
          | fail)
        exact leave_ret rfl rfl (HT4.out.set (Nat.le_refl _) false) (by rw [HR.out]; rfl) (by rw [HR.out]; rfl)
  | some ab =>
    obtain ⟨a, b⟩ := ab
    rw [hc] at hcu HR
    have hr2 := hra a b hc
    have hr3 := hrb a b hc
    clear hra hrb hr1 hc
    have HCU := Lib.hid hcu; clear hcu
    have hr0 : R = (match rowF false a, rowF true b with | some l, some r => if 8 ≤ l.length + r.length then none else some (l ++ List.replicate (8 - l.length - r.length) 0 ++ r) | _, _ => none) := HR.out
    have HR := Lib.hid hr0; clear hr0
    cases hrr : rowF false a with
    | none =>
      rw [hrr] at hr2 HR
      change ∀ W, Below w.heap.size w W → Calls _ _ _ W fun e w' => e = NoP ∧ Below W.heap.size W w' at hr2
      have HR2 := Lib.hid hr2; clear hr2 hr3 hrr
      go_enter_defers Tryz.func40, Tryz.ntmps40
      go_wp2_with (first
        | (refine alloc_to rfl 24 rfl _ _ (all8z _) ?_)
        | (go_at_call 60; refine (HCU.out _ HTW.out.bel).mono ?_; rintro e w2 ⟨rfl, hb2⟩; have HT2 := Lib.hid (HTW.out.below (Nat.le_refl _) hb2); clear hb2)
        | (go_at_call 61; with_reducible refine (HR2.out _ HT2.out.bel).mono ?_; rintro e w3 ⟨rfl, hb3⟩; have HT3 := Lib.hid (HT2.out.below (Nat.le_refl _) hb3); clear hb3)
        | fail)
      exact leave_stop rfl rfl HT3.out (Nat.le_refl _) HR.out
    | some u =>
      rw [hrr] at hr2 HR
      change ∀ W, Below w.heap.size w W → Calls _ _ _ W fun e w' => (∃ x, e = .returned x ∧ w'.ownsRow W.heap.size 23 1 x u.length (U16s u)) ∧ Below W.heap.size W w' at hr2
      have HR2 := Lib.hid hr2; clear hr2
      obtain ⟨L, hL⟩ : ∃ L, L = u.length := ⟨_, rfl⟩
      have hL8 : L ≤ 8 := by rw [hL]; exact (rowF_range hrr).2
      have HL := Lib.hid hL; clear hL hrr
      cases hrr : rowF true b with
      | none =>
        rw [hrr] at hr3 HR
        change ∀ W, Below w.heap.size w W → Calls _ _ _ W fun e w' => e = NoP ∧ Below W.heap.size W w' at hr3
        have HR3 := Lib.hid hr3; clear hr3 hrr
        go_enter_defers Tryz.func40, Tryz.ntmps40
        go_wp2_with (first
        | (refine alloc_to rfl 24 rfl _ _ (all8z _) ?_)
        | (go_at_call 60; refine (HCU.out _ HTW.out.bel).mono ?_; rintro e w2 ⟨rfl, hb2⟩; have HT2 := Lib.hid (HTW.out.below (Nat.le_refl _) hb2); clear hb2)
        | (go_at_call 61; with_reducible refine (HR2.out _ HT2.out.bel).mono ?_; rintro e w3 ⟨⟨x, rfl, ho3⟩, hb3⟩; clear ho3; have HT3 := Lib.hid (HT2.out.below (Nat.le_refl _) hb3); clear hb3)
        | (go_at_call 61; with_reducible refine (HR3.out _ HT3.out.bel).mono ?_; rintro e w4 ⟨rfl, hb4⟩; have HT4 := Lib.hid (HT3.out.below (Nat.le_refl _) hb4); clear hb4)
        | fail)
        exact leave_stop rfl rfl HT4.out (Nat.le_refl _) (by rw [HR.out])
      | some v =>
        rw [hrr] at hr3 HR
        change ∀ W, Below w.heap.size w W → Calls _ _ _ W fun e w' => (∃ x, e = .returned x ∧ w'.ownsRow W.heap.size 23 1 x v.length (U16s v)) ∧ Below W.heap.size W w' at hr3
        have HR3 := Lib.hid hr3; clear hr3
        obtain ⟨N, hN⟩ : ∃ N, N = v.length := ⟨_, rfl⟩
        have hN8 : N ≤ 8 := by rw [hN]; exact (rowF_range hrr).2
        have HN := Lib.hid hN; clear hN hrr
        have hr := HR.out
        dsimp only at hr
        rw [← HL.out, ← HN.out] at hr
        have HR := Lib.hid hr; clear hr
        have hws : IntKind.i64.wrap ((L : Int) + (N : Int)) = (L : Int) + (N : Int) := IntWalk.i64_in _ (by omega)
        by_cases h8 : 8 ≤ L + N
        · rw [if_pos h8] at HR
          have h8' : (8 : Int) ≤ (L : Int) + (N : Int) := by omega
          go_enter_defers Tryz.func40, Tryz.ntmps40
          go_wp2_with (first
        | (refine alloc_to rfl 24 rfl _ _ (all8z _) ?_)
        | (go_at_call 60; refine (HCU.out _ HTW.out.bel).mono ?_; rintro e w2 ⟨rfl, hb2⟩; have HT2 := Lib.hid (HTW.out.below (Nat.le_refl _) hb2); clear hb2)
        | (go_at_call 61; with_reducible refine (HR2.out _ HT2.out.bel).mono ?_; rintro e w3 ⟨⟨x, rfl, ho3⟩, hb3⟩; rw [← HL.out] at ho3; obtain ⟨av, cv, hv⟩ := own_val ho3; subst hv; clear ho3; have HT3 := Lib.hid (HT2.out.below (Nat.le_refl _) hb3); clear hb3)
        | (go_at_call 61; with_reducible refine (HR3.out _ HT3.out.bel).mono ?_; rintro e w4 ⟨⟨y, rfl, ho4⟩, hb4⟩; rw [← HN.out] at ho4; obtain ⟨aw, cw, hw⟩ := own_val ho4; subst hw; clear ho4; have HT4 := Lib.hid (HT3.out.below (Nat.le_refl _) hb4); clear hb4)
        | (refine build_to rfl 24 #[] rfl (.agg (U16s Z8).toArray) #[] rfl bld8 ?_)
        | (refine wpList_store_row rfl 24 (.tmp 2) (.tmp 39) rfl _ (U16s Z8).toArray rfl rfl _ _ HT4.out.a (by rw [size8]; rfl) (by simp [Z8]) (one8 _) ?_
           have ht5 := HT4.out.row (ds := Z8) (Nat.le_refl _) rfl
           revert ht5
           generalize World.setRow _ w.heap.size (U16s Z8).toArray = w5
           intro ht5
           obtain ⟨hc5, hz5⟩ := ht5.cell
           have HT5 := Lib.hid ht5; clear ht5)
        | fail)
          exact leave_ret rfl rfl (HT5.out.set (Nat.le_refl _) false) (by rw [HR.out]; rfl) (by rw [HR.out]; rfl)
        · rw [if_neg h8] at HR
          have h8' : ¬ (8 : Int) ≤ (L : Int) + (N : Int) := by omega
          obtain ⟨K, hK⟩ : ∃ K, K = 8 - N := ⟨_, rfl⟩
          have hwk : IntKind.i64.wrap (8 - (N : Int)) = (K : Int) := by rw [IntWalk.i64_in _ (by omega)]; omega
          have hK8 : K ≤ 8 := by omega
          have hKN : K + N = 8 := by omega
          obtain ⟨o', ho1, ho2, hsl⟩ := slice8 w.heap.size K N hKN
          have hspl : splice (splice Z8 0 u) o' v = u ++ List.replicate (8 - L - N) 0 ++ v := by
            have e1 := HL.out
            have e2 := HN.out
            rw [e1, e2]
            exact splice_two (K := K) (by omega) (by omega) (by rw [← e2]; exact ho2) (by omega)
          have HSPL := Lib.hid hspl; clear hspl
          have HK := Lib.hid hKN; clear hK hKN
          have HO2 := Lib.hid ho2; clear ho2
          go_enter_defers Tryz.func40, Tryz.ntmps40
          go_wp2_with (first
        | (refine alloc_to rfl 24 rfl _ _ (all8z _) ?_)
        | (go_at_call 60; refine (HCU.out _ HTW.out.bel).mono ?_; rintro e w2 ⟨rfl, hb2⟩; have HT2 := Lib.hid (HTW.out.below (Nat.le_refl _) hb2); clear hb2)
        | (go_at_call 61; with_reducible refine (HR2.out _ HT2.out.bel).mono ?_; rintro e w3 ⟨⟨x, rfl, ho3⟩, hb3⟩; rw [← HL.out] at ho3; obtain ⟨av, cv, hv⟩ := own_val ho3; subst hv; have HO3 := Lib.hid ho3; clear ho3; have hz3 := HT2.out.lt; have HT3 := Lib.hid (HT2.out.below (Nat.le_refl _) hb3); clear hb3)
        | (go_at_call 61; with_reducible refine (HR3.out _ HT3.out.bel).mono ?_; rintro e w4 ⟨⟨y, rfl, ho4⟩, hb4⟩; rw [← HN.out] at ho4; obtain ⟨aw, cw, hw⟩ := own_val ho4; subst hw; have HO4 := Lib.hid ho4; clear ho4; have HO3b := Lib.hid (own_below HO3.out hb4); have hz4 := HT3.out.lt; have HT4 := Lib.hid (HT3.out.below (Nat.le_refl _) hb4); clear hb4)
        | ((refine copy_to rfl (.tmp 40) (.tmp 41) _ _ rfl 23 Tryz.underlying80 u16_size w w.heap.size Z8 false HT4.out (Nat.le_refl _) 0 8 8 rfl av L cv rfl u HL.out.symm _ (Sl.of_own HO3b.out) (by omega) (by omega) ?_); intro w5 ht5 hg5; have HT5 := Lib.hid ht5; have HO5 := Lib.hid (HO4.out.kept hg5 (own_off HO4.out (by omega))); clear ht5 hg5)
        | ((refine copy_to rfl (.tmp 46) (.tmp 47) _ _ rfl 23 Tryz.underlying80 u16_size w w.heap.size _ false HT5.out (Nat.le_refl _) o' N N rfl aw N cw rfl v HN.out.symm _ (Sl.of_own HO5.out) ho1 (Nat.le_refl _) ?_); intro w6 ht6 hg6; rw [HSPL.out] at ht6; have HT6 := Lib.hid ht6; clear ht6 hg6)
        | (refine wpList_load_row rfl 24 (.tmp 2) rfl w.heap.size rfl _ _ _ _ HT6.out.a Tryz.underlying24 rfl (by rw [size8]; simp only [List.size_toArray, List.length_map, HT6.out.len]) ?_)
        | (refine wpList_store_row rfl 24 (.tmp 2) (.tmp 49) rfl w.heap.size (U16s (u ++ List.replicate (8 - L - N) 0 ++ v)).toArray rfl rfl _ _ HT6.out.a (by rw [size8]; simp only [List.size_toArray, List.length_map, HT6.out.len]) rfl (one8 _) ?_
           have ht7 := HT6.out.row (ds := (u ++ List.replicate (8 - L - N) 0 ++ v)) (Nat.le_refl _) HT6.out.len
           revert ht7
           generalize World.setRow _ w.heap.size (U16s (u ++ List.replicate (8 - L - N) 0 ++ v)).toArray = w7
           intro ht7
           obtain ⟨hc7, hz7⟩ := ht7.cell
           have HT7 := Lib.hid ht7; clear ht7)
        | fail)
          exact leave_ret rfl rfl (HT7.out.set (Nat.le_refl _) true) (by rw [HR.out]; rfl) (by rw [HR.out]; rfl)
end Go.Proofs.YtgfklkfbccknoaaGreatDoor
