/- SixF SixG SixU SixV HstB HplA HstC HstD HstE HplC AthA AthB AthD Rsm: joined. -/
import Derived.Recover
import Derived.Laws.CopyOwn
import Derived.Laws.Pointers
import Derived.Test.YtpckaimpjccjhaaGreatDoorGSixA
import Derived.Test.YtpckaimpjccjhaaGreatDoorGPctA
import Derived.Test.YtpckaimpjccjhaaGreatDoorGNumB
import Derived.Test.YtpckaimpjccjhaaGreatDoorGIdnI
import Derived.Test.YtpckaimpjccjhaaGreatDoorGIdnG
import Derived.Test.YtpckaimpjccjhaaGreatDoorGSlic
import Derived.Test.YtpckaimpjccjhaaGreatDoorGPunL
import Derived.Deep.QuietTactic
import Derived.BigQuiet
set_option maxHeartbeats 40000000
namespace Go.Proofs.YtpckaimpjccjhaaGreatDoor
open Go.RowKit
set_option maxRecDepth 10000
structure Two (w : World) (b : Nat) (cs : List Int) (q : Bool) (wr : World) : Prop where
 a : wr.heap[b]? = some (.cells (U16s cs).toArray 25 (0, 0))
 ok : wr.heap[b + 1]? = some (.cells #[.bool q] 4 (0, 0))
 len : cs.length = 8
 bel : Below w.heap.size w wr
theorem Two.lt {w : World} {b : Nat} {cs : List Int} {q : Bool} {wr : World} (h : Two w b cs q wr) : b + 1 < wr.heap.size := (Array.getElem?_eq_some_iff.1 h.ok).1
theorem Two.below {w : World} {b : Nat} {cs : List Int} {q : Bool} {wr w2 : World} (h : Two w b cs q wr) (hb : w.heap.size <= b) (h2 : Below wr.heap.size wr w2) : Two w b cs q w2 := by
 have := h.lt
 exact ⟨(h2.block b (by omega)).trans h.a, (h2.block (b + 1) (by omega)).trans h.ok, h.len, h.bel.trans (h2.mono (by omega))⟩
theorem Two.row {w : World} {b : Nat} {cs ds : List Int} {q : Bool} {wr : World} (h : Two w b cs q wr) (hb : w.heap.size <= b) (hd : ds.length = 8) : Two w b ds q (wr.setRow b (U16s ds).toArray) :=
 ⟨setRow_heap wr b _ _ _ _ h.a, (setRow_other wr b (b + 1) _ (by omega)).trans h.ok, hd, below_setRow h.bel hb _⟩
theorem Two.set {w : World} {b : Nat} {cs : List Int} {q : Bool} {wr : World} (h : Two w b cs q wr) (hb : w.heap.size <= b) (p : Bool) : Two w b cs p (wr.setCell ⟨b + 1, 0, none⟩ (.bool p)) := by
 have e := setCell_eq_setRow wr (b + 1) 0 _ _ _ (.bool p) h.ok
 rw [e]
 exact ⟨(setRow_other wr (b + 1) b _ (by omega)).trans h.a, setRow_heap wr (b + 1) _ _ _ _ h.ok, h.len, below_setRow h.bel (by omega) _⟩
theorem Two.cell {w : World} {b : Nat} {cs : List Int} {q : Bool} {wr : World} (h : Two w b cs q wr) : wr.cell? ⟨b + 1, 0, none⟩ = some (.bool q) ∧ wr.frozen? ⟨b + 1, 0, none⟩ = false := by
 constructor
 ·simp [World.cell?, h.ok]
 ·simp [World.frozen?, h.ok]
def Z8 : List Int := [0, 0, 0, 0, 0, 0, 0, 0]
theorem all8z (w : World) : (Instr.alloc 25 true (Value.tuple #[])).run Tryz.prog w = .ok (.pointer (some ⟨w.heap.size, 0, none⟩)) (w.alloc (.cells (U16s Z8).toArray 25)) := by kernel_rfl
theorem bld8 : ∀ w, (Instr.build 25 #[]).run Tryz.prog w = .ok (.agg (U16s Z8).toArray) w := fun w => by kernel_rfl
theorem size8 : (Tryz.prog.info? 25).map (·.size) = some 8 := by kernel_rfl
theorem one8 (cs : List Int) : (U16s cs).toArray.all (·.oneCell') = true := by
 rw [Array.all_eq_true]
 intro i hi
 simp [Value.oneCell']
theorem two_fresh (w : World) : Two w w.heap.size Z8 false ((w.alloc (.cells (U16s Z8).toArray 25)).alloc (.cells #[.bool false] 4)) := by
 refine ⟨?_, ?_, rfl, ((Below.refl _ w).alloc (Nat.le_refl _) _).alloc (by simp) _⟩
 ·rw [Below.heap_alloc _ _ _ (by simp), heap_alloc_new]
 ·have := heap_alloc_new (w.alloc (.cells (U16s Z8).toArray 25)) (.cells #[.bool false] 4)
  simpa using this
theorem catch_stop (w0 : World) (b : Nat) (cs : List Int) (q : Bool) (u : TypeId) (pv : Value) (older : List PanicEntry) (w : World) (h : Two w0 b cs q w) (hb : w0.heap.size <= b) :
  CallsD Tryz.prog 215 #[.pointer (some ⟨b, 0, none⟩), .pointer (some ⟨b + 1, 0, none⟩)] (.panicking ({ v := .iface u pv, recovered := false } :: older)) w fun e u' w' =>
   e = .returned (.tuple #[]) ∧ u' = .panicking ({ v := .iface u pv, recovered := true } :: older) ∧ Two w0 b Z8 false w' := by
 refine callsD_of_wpS Tryz.func215 rfl fun c₀ cs hu => ?_
 apply wpS_seq
 apply wpS_region
 simp [wpOpsS, go_sem, recoverD, hu, Tryz.ntmps215, Exit.thenS]
 refine wpS_cond (t := true) (by simp [Act.eval, Array.replicate]) ?_
 simp only [if_true]
 refine wpS_of_wp ?_
 have HT := h_ h; clear h
 go_wp2_with (first
  | (refine build_to rfl 25 #[] rfl (.agg (U16s Z8).toArray) #[] rfl bld8 ?_)
  | (refine wpList_store_row rfl 25 (.tmp 0) (.tmp 4) rfl b (U16s Z8).toArray rfl rfl _ _ HT.out.a (by rw [size8]; rfl) (by simp [HT.out.len, Z8]) (one8 _) ?_
     have ht2 := HT.out.row (ds := Z8) hb rfl
     revert ht2
     generalize w.setRow b (U16s Z8).toArray = w2
     intro ht2
     obtain ⟨hc2, hz2⟩ := ht2.cell
     have HT2 := h_ ht2; clear ht2)
  | fail)
 simp only [bodyPostS]
 exact ⟨trivial, _, rfl, .tuple #[], by simp [results, Tryz.results215], rfl, rfl, HT2.out.set hb false⟩
theorem catch_idle (p r : Addr) (w : World) :
  CallsD Tryz.prog 215 #[.pointer (some p), .pointer (some r)] .returning w fun e u' w' => e = .returned (.tuple #[]) ∧ u' = .returning ∧ w' = w := by
 refine callsD_of_wpS Tryz.func215 rfl fun c₀ cs hu => ?_
 apply wpS_seq
 apply wpS_region
 simp [wpOpsS, go_sem, recoverD, hu, Tryz.ntmps215, Exit.thenS]
 refine wpS_cond (t := false) (by simp [Act.eval, Array.replicate]) ?_
 simp only [Bool.false_eq_true, if_false]
 refine wpS_of_wp (wp_skip ?_)
 cases c₀
 simp_all [bodyPostS, results, Tryz.results215]

abbrev sixE (o : Option (List Int)) : Ending := .returned (.tuple #[.agg (U16s (o.getD Z8)).toArray, .bool o.isSome])
theorem copy_to {ops : Array Oper} {rest : List Oper} {o : Oper} {a : Act} {w : World} {Q : Exit -> Act -> World -> Prop} (hgd : o.guard = none) (d s : Operand) (dT sT : TypeId)
  (ho : o.op = .call { callee := .builtin .copy, args := #[d, s], argTypes := #[dT, sT] }) (elem : TypeId) (hu : Tryz.prog.underlying dT = some (.slice elem)) (hsz : (Tryz.prog.info? elem).map (·.size) = some 1)
  (w0 : World) (g : Nat) (cs : List Int) (q : Bool) (hT : Two w0 g cs q w) (hg : w0.heap.size <= g) (off dLen dCap : Nat) (hd : a.eval d = .slice (some ⟨g, off, none⟩) dLen dCap)
  (sp : Option Addr) (sLen sCap : Nat) (hs : a.eval s = .slice sp sLen sCap) (l : List Int) (hl : l.length = sLen) (B : Nat) (hsrc : Sl B w (.slice sp sLen sCap) (U16s l)) (hfit : off + sLen <= 8) (hdl : sLen <= dLen)
  (h : ∀ w', Two w0 g (splice cs off l) q w' -> w.grownBy w' (some g) -> wpList Tryz.prog ops Q rest (a.put o.dst (goInt sLen)) w') : wpList Tryz.prog ops Q (o :: rest) a w := by
 by_cases h0 : l = []
 ·subst h0
  obtain rfl : sLen = 0 := hl.symm
  refine wpList_copy_nothing hgd d s dT sT ho elem hu hsz _ _ _ _ _ _ hd hs (Nat.zero_min _) ?_
  have e : splice cs off [] = cs := by simp [splice]
  exact h w (by rw [e]; exact hT) ⟨rfl, rfl, rfl, Nat.le_refl _, fun _ _ _ => rfl⟩
 ·have hn0 : sLen ≠ 0 := fun e => h0 (List.eq_nil_of_length_eq_zero (by omega))
  obtain ⟨c', _, _, hx⟩ := hsrc
  rcases hx with ⟨hx, _⟩ | ⟨b', o', _, hv, hat⟩
  ·exact absurd (by simpa using hx) h0
  ·injection hv with e1 e2 e3
   subst e1
   have hcl : (U16s cs).toArray.size = 8 := by simp [hT.len]
   have hfin := fun h' : _ => h (w.setRow g (U16s (splice cs off l)).toArray) (hT.row hg (by rw [length_splice _ _ _ (by rw [hT.len]; omega)]; exact hT.len)) h'
   refine wpList_copy_own hgd d s dT sT ho elem hu hsz g off dLen dCap ⟨b', o', none⟩ sLen sCap hd hs (U16s cs).toArray _ hT.a (U16s l) (by rw [List.length_map, hl]; exact (Nat.min_eq_left hdl).symm) ?_ (by rw [List.length_map, hcl]; omega) ?_ ?_
   ·intro j v hj
    have hjl : j < (U16s l).length := (List.getElem?_eq_some_iff.mp hj).1
    rw [addr_add, hat j hjl, <- List.getElem?_eq_getElem hjl, hj]
   ·intro v hv
    obtain ⟨n, _, rfl⟩ := List.mem_map.mp hv
    rfl
   ·have e : ((U16s cs).toArray.toList.take off ++ (U16s l ++ (U16s cs).toArray.toList.drop (off + (U16s l).length))).toArray = (U16s (splice cs off l)).toArray := by
     simp [splice, List.map_take, List.map_drop]
    rw [e, show (U16s l).length = sLen by rw [List.length_map, hl]]
    exact hfin ⟨rfl, rfl, rfl, by simp [World.setRow], fun k hk hne => setRow_other w g k _ (fun e => hne (by rw [e]))⟩
theorem six_res {tmps : Array Value} {w w2 : World} {g : Nat} {cs : List Int} {q : Bool} (h2 : tmps.getD 2 undef = .pointer (some ⟨g, 0, none⟩)) (h3 : tmps.getD 3 undef = .pointer (some ⟨g + 1, 0, none⟩)) (h : Two w g cs q w2) :
  (results Tryz.f210 tmps).run Tryz.prog w2 = .ok (.tuple #[.agg (U16s cs).toArray, .bool q]) w2 := by
 have h2' : tmps[2]?.getD undef = .pointer (some ⟨g, 0, none⟩) := by simpa using h2
 have h3' : tmps[3]?.getD undef = .pointer (some ⟨g + 1, 0, none⟩) := by simpa using h3
 have hl := run_loadVar_row (P := Tryz.prog) w2 g 25 25 (U16s cs).toArray (0, 0) _ h.a Tryz.underlying25 rfl (by rw [size8]; simp [h.len])
 obtain ⟨hc, hz⟩ := h.cell
 have hlb : (loadVar 4 ⟨g + 1, 0, none⟩).run Tryz.prog w2 = .ok (.bool q) w2 := by simp [go_sem, hc]
 simp [results, Tryz.results210, asAddr, h2', h3', hl, hlb]
theorem u16_size : (Tryz.prog.info? 24).map (·.size) = some 1 := by kernel_rfl
theorem leave_stop {tmps : Array Value} {w w3 : World} {g : Nat} {cs : List Int} {q : Bool} (h2 : tmps.getD 2 undef = .pointer (some ⟨g, 0, none⟩)) (h3 : tmps.getD 3 undef = .pointer (some ⟨g + 1, 0, none⟩)) (h : Two w g cs q w3) (hg : w.heap.size <= g) {R : Option (List Int)} (hR : R = none) :
  bodyPostD Tryz.prog Tryz.f210 (fun e w' => e = sixE R ∧ Below w.heap.size w w') (Exit.panic [{ v := .iface 214 (.agg #[]), recovered := false }])
   { tmps := tmps, defers := [{ target := .fn (.func 215) #[.pointer (some ⟨g, 0, none⟩), .pointer (some ⟨g + 1, 0, none⟩)], args := #[] }] } w3 := by
 subst hR
 refine leaves_cons (f := 215) (args := #[.pointer (some ⟨g, 0, none⟩), .pointer (some ⟨g + 1, 0, none⟩)]) (by simp) (by simp [go_sem]) ?_
 refine (catch_stop w g cs q _ _ [] w3 h hg).mono ?_
 rintro e u' w4 ⟨rfl, rfl, h4⟩
 exact ⟨_, six_res h2 h3 h4, rfl, h4.bel⟩
theorem leave_ret {tmps : Array Value} {w w3 : World} {g : Nat} {cs : List Int} {q : Bool} (h2 : tmps.getD 2 undef = .pointer (some ⟨g, 0, none⟩)) (h3 : tmps.getD 3 undef = .pointer (some ⟨g + 1, 0, none⟩)) (h : Two w g cs q w3) {R : Option (List Int)} (hR : cs = R.getD Z8) (hq : q = R.isSome) :
  bodyPostD Tryz.prog Tryz.f210 (fun e w' => e = sixE R ∧ Below w.heap.size w w') Exit.ret
   { tmps := tmps, defers := [{ target := .fn (.func 215) #[.pointer (some ⟨g, 0, none⟩), .pointer (some ⟨g + 1, 0, none⟩)], args := #[] }] } w3 := by
 refine leaves_cons (f := 215) (args := #[.pointer (some ⟨g, 0, none⟩), .pointer (some ⟨g + 1, 0, none⟩)]) (by simp) (by simp [go_sem]) ?_
 refine (catch_idle _ _ w3).mono ?_
 rintro e u' w4 ⟨rfl, rfl, rfl⟩
 exact ⟨_, six_res h2 h3 h, by rw [hR, hq], h.bel⟩
theorem slice8 (b K N : Nat) (h : K + N = 8) : ∃ o', o' + N <= 8 ∧ (N ≠ 0 -> o' = K) ∧ ∀ W, (Instr.sliceAt 25 (.pointer (some ⟨b, 0, none⟩)) (some (.int .i64 (K : Int))) none none).run Tryz.prog W = .ok (.slice (some ⟨b, o', none⟩) N N) W := by
 have hk : ((K : Int)).toNat = K := rfl
 have hrun := fun W => run_sliceAt_array_l (P := Tryz.prog) W 25 ⟨b, 0, none⟩ Tryz.underlying25 .i64 (K : Int) (by omega) (by show (K : Int) <= 8; omega)
 have hsz : ∀ W, (sizeOf (Tryz.prog.elem 25)).run Tryz.prog W = .ok 1 W := fun W => by
  obtain ⟨i, hi, _, hs, _⟩ := info_parts u16_info
  exact run_size hi hs W
 by_cases hN : N = 0
 ·subst hN
  refine ⟨0, by omega, fun h => absurd rfl h, fun W => ?_⟩
  rw [hrun, hsz]
  have hK : K = 8 := by omega
  subst hK
  rfl
 ·refine ⟨K, by omega, fun _ => rfl, fun W => ?_⟩
  rw [hrun, hsz]
  show Result.ok (slicedAt ⟨b, 0, none⟩ K 8 8 1) W = _
  unfold slicedAt
  rw [if_neg (by omega), show (⟨b, 0, none⟩ : Addr).add (K * 1) = ⟨b, K, none⟩ by rw [addr_add]; simp, show 8 - K = N by omega]
theorem splice_two {u v : List Int} {o' K : Nat} (hK : K + v.length = 8) (hL : u.length + v.length < 8) (ho : v.length ≠ 0 -> o' = K) (ho2 : o' + v.length <= 8) :
  splice (splice Z8 0 u) o' v = u ++ List.replicate (8 - u.length - v.length) 0 ++ v := by
 have e1 : splice Z8 0 u = u ++ List.replicate (8 - u.length) 0 := by
  unfold splice
  have : Z8 = List.replicate 8 0 := rfl
  rw [this, List.take_zero, List.nil_append, List.drop_replicate, Nat.zero_add]
 rw [e1]
 unfold splice
 by_cases hv : v = []
 ·subst hv
  simp only [List.length_nil, Nat.add_zero, List.nil_append, List.take_append_drop, Nat.sub_zero, List.append_nil]
 ·have hvl : v.length ≠ 0 := fun e => hv (List.eq_nil_of_length_eq_zero e)
  rw [ho hvl, List.take_append, List.take_of_length_le (by omega), List.take_replicate, List.drop_of_length_le (by simp; omega), List.append_nil]
  congr 2
  congr 1
  omega
theorem own_off {w : World} {base e n : Nat} {v : Value} {xs : List Value} (h : w.ownsRow base e 1 v n xs) {g : Nat} (hg : g < base) : v.ownBlock = none ∨ v.ownBlock ≠ some g := by
 rcases h.2 with ⟨rfl, _⟩ | ⟨k, cap, cur, rfl, hk, _⟩
 ·exact .inl rfl
 ·right
  intro e
  simp only [Value.ownBlock, Option.some.injEq] at e
  omega
theorem sixparse_any (l : Bytes) (w : World) (hl : l.length <= 1024000000) (hE : Env w) : Calls Tryz.prog 210 #[.string (bs l)] w fun e w' => e = sixE (sixPF l) ∧ Below w.heap.size w w' := by
 have hmf : ∀ (fn : Fn) (first cap : Array Value) (w : World), (Instr.makeFunc fn first cap).run Tryz.prog w = .ok (.func fn first cap) w := fun _ _ _ _ => rfl
 have hcu := fun W (h : Below w.heap.size w W) => scut_any l [58, 58] W hl (hE.below h)
 rw [show bs [58, 58] = ⟨#[58, 58]⟩ from rfl, lcut_two] at hcu
 have hr1 := fun W (h : Below w.heap.size w W) => row_any l true W hl (hE.below h)
 obtain ⟨R, hR⟩ := ex_ (sixPF l)
 rw [<- hR]
 unfold sixPF at hR
 have hlen : ∀ a b, cut2 l = some (a, b) -> a.length <= 1024000000 ∧ b.length <= 1024000000 := by
  intro a b h
  have h1 := cut_rest l [58, 58]
  rw [lcut_two, h] at h1
  dsimp only at h1
  omega
 have hra := fun a b (h : cut2 l = some (a, b)) W (hw : Below w.heap.size w W) => row_any a false W (hlen a b h).1 (hE.below hw)
 have hrb := fun a b (h : cut2 l = some (a, b)) W (hw : Below w.heap.size w W) => row_any b true W (hlen a b h).2 (hE.below hw)
 clear hlen hE hl
 have tw := two_fresh w
 obtain ⟨s, hs⟩ := ex_ (bs l)
 rw [<- hs] at hcu hr1 ⊢
 have HS := h_ hs; clear hs
 have HR := h_ hR; clear hR
 have HTW := h_ tw; clear tw
 cases hc : cut2 l with
 | none =>
  rw [hc] at hcu HR
  have HCU := h_ hcu; clear hcu
  clear hra hrb hc
  cases hrr : rowF true l with
  | none =>
   rw [hrr] at hr1 HR
   change ∀ W, Below w.heap.size w W -> Calls _ _ _ W fun e w' => e = NoP ∧ Below W.heap.size W w' at hr1
   have HR1 := h_ hr1; clear hr1 hrr
   go_enter_defers Tryz.func210, Tryz.ntmps210
   go_wp2_with (first
    | (refine alloc_to rfl 25 rfl _ _ (all8z _) ?_)
    | (go_at_call 48; refine (HCU.out _ HTW.out.bel).mono ?_; rintro e w2 ⟨rfl, hb2⟩; have HT2 := h_ (HTW.out.below (Nat.le_refl _) hb2); clear hb2)
    | (go_at_call 216; refine (HR1.out _ HT2.out.bel).mono ?_; rintro e w3 ⟨rfl, hb3⟩; have HT3 := h_ (HT2.out.below (Nat.le_refl _) hb3); clear hb3)
    | fail)
   exact leave_stop rfl rfl HT3.out (Nat.le_refl _) HR.out
  | some v =>
   rw [hrr] at hr1 HR
   change ∀ W, Below w.heap.size w W -> Calls _ _ _ W fun e w' => (∃ x, e = .returned x ∧ w'.ownsRow W.heap.size 24 1 x v.length (U16s v)) ∧ Below W.heap.size W w' at hr1
   have HR1 := h_ hr1; clear hr1
   have HRG := h_ (rowF_range hrr); clear hrr
   obtain ⟨N, hN⟩ := ex_ (v.length)
   have hN8 : N <= 8 := by rw [hN]; exact HRG.out.2
   have hr := HR.out
   dsimp only at hr
   rw [<- hN] at hr
   have HR := h_ hr; clear hr
   have HN := h_ hN; clear hN
   by_cases h8 : N = 8
   ·rw [if_pos h8] at HR
    subst h8
    go_enter_defers Tryz.func210, Tryz.ntmps210
    go_wp2_with (first
     | (refine alloc_to rfl 25 rfl _ _ (all8z _) ?_)
     | (go_at_call 48; refine (HCU.out _ HTW.out.bel).mono ?_; rintro e w2 ⟨rfl, hb2⟩; have HT2 := h_ (HTW.out.below (Nat.le_refl _) hb2); clear hb2)
     | (go_at_call 216; refine (HR1.out _ HT2.out.bel).mono ?_; rintro e w3 ⟨⟨x, rfl, ho3⟩, hb3⟩; rw [<- HN.out] at ho3; obtain ⟨av, cv, hv⟩ := own_val ho3; subst hv; have HO3 := h_ (Sl.of_own ho3); clear ho3; have HT3 := h_ (HT2.out.below (Nat.le_refl _) hb3); clear hb3)
     | ((refine copy_to rfl (.tmp 25) (.tmp 26) _ _ rfl 24 Tryz.underlying203 u16_size w w.heap.size Z8 false HT3.out (Nat.le_refl _) 0 8 8 rfl av 8 cv rfl v HN.out.symm _ HO3.out (by omega) (by omega) ?_); intro w4 ht4 hg4; rw [show splice Z8 0 v = v by unfold splice; rw [<- HN.out]; simp [Z8]] at ht4; have HT4 := h_ ht4; clear ht4 hg4)
     | (refine wpList_load_row rfl 25 (.tmp 2) rfl w.heap.size rfl _ _ _ _ HT4.out.a Tryz.underlying25 rfl (by rw [size8]; simp [HT4.out.len]) ?_)
     | (refine wpList_store_row rfl 25 (.tmp 2) (.tmp 28) rfl w.heap.size (U16s v).toArray rfl rfl _ _ HT4.out.a (by rw [size8]; simp [HT4.out.len]) (by simp) (one8 _) ?_
        have ht5 := HT4.out.row (ds := v) (Nat.le_refl _) HT4.out.len
        revert ht5
        generalize World.setRow _ w.heap.size (U16s v).toArray = w5
        intro ht5
        obtain ⟨hc5, hz5⟩ := ht5.cell
        have HT5 := h_ ht5; clear ht5)
     | fail)
    exact leave_ret rfl rfl (HT5.out.set (Nat.le_refl _) true) (by rw [HR.out]; rfl) (by rw [HR.out]; rfl)
   ·rw [if_neg h8] at HR
    have h8' : ((N : Int) == 8) = false := by simp; omega
    go_enter_defers Tryz.func210, Tryz.ntmps210
    go_wp2_with (first
     | (refine alloc_to rfl 25 rfl _ _ (all8z _) ?_)
     | (go_at_call 48; refine (HCU.out _ HTW.out.bel).mono ?_; rintro e w2 ⟨rfl, hb2⟩; have HT2 := h_ (HTW.out.below (Nat.le_refl _) hb2); clear hb2)
     | (go_at_call 216; refine (HR1.out _ HT2.out.bel).mono ?_; rintro e w3 ⟨⟨x, rfl, ho3⟩, hb3⟩; rw [<- HN.out] at ho3; obtain ⟨av, cv, hv⟩ := own_val ho3; subst hv; have HO3 := h_ (Sl.of_own ho3); clear ho3; have HT3 := h_ (HT2.out.below (Nat.le_refl _) hb3); clear hb3)
     | (refine build_to rfl 25 #[] rfl (.agg (U16s Z8).toArray) #[] rfl bld8 ?_)
     | (refine wpList_store_row rfl 25 (.tmp 2) (.tmp 24) rfl _ (U16s Z8).toArray rfl rfl _ _ HT3.out.a (by rw [size8]; rfl) (by simp [Z8]) (one8 _) ?_
        have ht4 := HT3.out.row (ds := Z8) (Nat.le_refl _) rfl
        revert ht4
        generalize World.setRow _ w.heap.size (U16s Z8).toArray = w4
        intro ht4
        obtain ⟨hc4, hz4⟩ := ht4.cell
        have HT4 := h_ ht4; clear ht4)
     | fail)
    exact leave_ret rfl rfl (HT4.out.set (Nat.le_refl _) false) (by rw [HR.out]; rfl) (by rw [HR.out]; rfl)
 | some ab =>
  obtain ⟨a, b⟩ := ab
  rw [hc] at hcu HR
  have hr2 := hra a b hc
  have hr3 := hrb a b hc
  clear hra hrb hr1 hc
  have HCU := h_ hcu; clear hcu
  have hr0 : R = (match rowF false a, rowF true b with | some l, some r => if 8 <= l.length + r.length then none else some (l ++ List.replicate (8 - l.length - r.length) 0 ++ r) | _, _ => none) := HR.out
  have HR := h_ hr0; clear hr0
  cases hrr : rowF false a with
  | none =>
   rw [hrr] at hr2 HR
   change ∀ W, Below w.heap.size w W -> Calls _ _ _ W fun e w' => e = NoP ∧ Below W.heap.size W w' at hr2
   have HR2 := h_ hr2; clear hr2 hr3 hrr
   go_enter_defers Tryz.func210, Tryz.ntmps210
   go_wp2_with (first
    | (refine alloc_to rfl 25 rfl _ _ (all8z _) ?_)
    | (go_at_call 48; refine (HCU.out _ HTW.out.bel).mono ?_; rintro e w2 ⟨rfl, hb2⟩; have HT2 := h_ (HTW.out.below (Nat.le_refl _) hb2); clear hb2)
    | (go_at_call 216; with_reducible refine (HR2.out _ HT2.out.bel).mono ?_; rintro e w3 ⟨rfl, hb3⟩; have HT3 := h_ (HT2.out.below (Nat.le_refl _) hb3); clear hb3)
    | fail)
   exact leave_stop rfl rfl HT3.out (Nat.le_refl _) HR.out
  | some u =>
   rw [hrr] at hr2 HR
   change ∀ W, Below w.heap.size w W -> Calls _ _ _ W fun e w' => (∃ x, e = .returned x ∧ w'.ownsRow W.heap.size 24 1 x u.length (U16s u)) ∧ Below W.heap.size W w' at hr2
   have HR2 := h_ hr2; clear hr2
   obtain ⟨L, hL⟩ := ex_ (u.length)
   have hL8 : L <= 8 := by rw [hL]; exact (rowF_range hrr).2
   have HL := h_ hL; clear hL hrr
   cases hrr : rowF true b with
   | none =>
    rw [hrr] at hr3 HR
    change ∀ W, Below w.heap.size w W -> Calls _ _ _ W fun e w' => e = NoP ∧ Below W.heap.size W w' at hr3
    have HR3 := h_ hr3; clear hr3 hrr
    go_enter_defers Tryz.func210, Tryz.ntmps210
    go_wp2_with (first
    | (refine alloc_to rfl 25 rfl _ _ (all8z _) ?_)
    | (go_at_call 48; refine (HCU.out _ HTW.out.bel).mono ?_; rintro e w2 ⟨rfl, hb2⟩; have HT2 := h_ (HTW.out.below (Nat.le_refl _) hb2); clear hb2)
    | (go_at_call 216; with_reducible refine (HR2.out _ HT2.out.bel).mono ?_; rintro e w3 ⟨⟨x, rfl, ho3⟩, hb3⟩; clear ho3; have HT3 := h_ (HT2.out.below (Nat.le_refl _) hb3); clear hb3)
    | (go_at_call 216; with_reducible refine (HR3.out _ HT3.out.bel).mono ?_; rintro e w4 ⟨rfl, hb4⟩; have HT4 := h_ (HT3.out.below (Nat.le_refl _) hb4); clear hb4)
    | fail)
    exact leave_stop rfl rfl HT4.out (Nat.le_refl _) (by rw [HR.out])
   | some v =>
    rw [hrr] at hr3 HR
    change ∀ W, Below w.heap.size w W -> Calls _ _ _ W fun e w' => (∃ x, e = .returned x ∧ w'.ownsRow W.heap.size 24 1 x v.length (U16s v)) ∧ Below W.heap.size W w' at hr3
    have HR3 := h_ hr3; clear hr3
    obtain ⟨N, hN⟩ := ex_ (v.length)
    have hN8 : N <= 8 := by rw [hN]; exact (rowF_range hrr).2
    have HN := h_ hN; clear hN hrr
    have hr := HR.out
    dsimp only at hr
    rw [<- HL.out, <- HN.out] at hr
    have HR := h_ hr; clear hr
    have hws : IntKind.i64.wrap ((L : Int) + (N : Int)) = (L : Int) + (N : Int) := IntWalk.i64_in _ (by omega)
    by_cases h8 : 8 <= L + N
    ·rw [if_pos h8] at HR
     have h8' : (8 : Int) <= (L : Int) + (N : Int) := by omega
     go_enter_defers Tryz.func210, Tryz.ntmps210
     go_wp2_with (first
    | (refine alloc_to rfl 25 rfl _ _ (all8z _) ?_)
    | (go_at_call 48; refine (HCU.out _ HTW.out.bel).mono ?_; rintro e w2 ⟨rfl, hb2⟩; have HT2 := h_ (HTW.out.below (Nat.le_refl _) hb2); clear hb2)
    | (go_at_call 216; with_reducible refine (HR2.out _ HT2.out.bel).mono ?_; rintro e w3 ⟨⟨x, rfl, ho3⟩, hb3⟩; rw [<- HL.out] at ho3; obtain ⟨av, cv, hv⟩ := own_val ho3; subst hv; clear ho3; have HT3 := h_ (HT2.out.below (Nat.le_refl _) hb3); clear hb3)
    | (go_at_call 216; with_reducible refine (HR3.out _ HT3.out.bel).mono ?_; rintro e w4 ⟨⟨y, rfl, ho4⟩, hb4⟩; rw [<- HN.out] at ho4; obtain ⟨aw, cw, hw⟩ := own_val ho4; subst hw; clear ho4; have HT4 := h_ (HT3.out.below (Nat.le_refl _) hb4); clear hb4)
    | (refine build_to rfl 25 #[] rfl (.agg (U16s Z8).toArray) #[] rfl bld8 ?_)
    | (refine wpList_store_row rfl 25 (.tmp 2) (.tmp 39) rfl _ (U16s Z8).toArray rfl rfl _ _ HT4.out.a (by rw [size8]; rfl) (by simp [Z8]) (one8 _) ?_
       have ht5 := HT4.out.row (ds := Z8) (Nat.le_refl _) rfl
       revert ht5
       generalize World.setRow _ w.heap.size (U16s Z8).toArray = w5
       intro ht5
       obtain ⟨hc5, hz5⟩ := ht5.cell
       have HT5 := h_ ht5; clear ht5)
    | fail)
     exact leave_ret rfl rfl (HT5.out.set (Nat.le_refl _) false) (by rw [HR.out]; rfl) (by rw [HR.out]; rfl)
    ·rw [if_neg h8] at HR
     have h8' : ¬ (8 : Int) <= (L : Int) + (N : Int) := by omega
     obtain ⟨K, hK⟩ := ex_ (8 - N)
     have hwk : IntKind.i64.wrap (8 - (N : Int)) = (K : Int) := by rw [IntWalk.i64_in _ (by omega)]; omega
     have hK8 : K <= 8 := by omega
     have hKN : K + N = 8 := by omega
     obtain ⟨o', ho1, ho2, hsl⟩ := slice8 w.heap.size K N hKN
     have hspl : splice (splice Z8 0 u) o' v = u ++ List.replicate (8 - L - N) 0 ++ v := by
      have e1 := HL.out
      have e2 := HN.out
      rw [e1, e2]
      exact splice_two (K := K) (by omega) (by omega) (by rw [<- e2]; exact ho2) (by omega)
     have HSPL := h_ hspl; clear hspl
     have HK := h_ hKN; clear hK hKN
     have HO2 := h_ ho2; clear ho2
     go_enter_defers Tryz.func210, Tryz.ntmps210
     go_wp2_with (first
    | (refine alloc_to rfl 25 rfl _ _ (all8z _) ?_)
    | (go_at_call 48; refine (HCU.out _ HTW.out.bel).mono ?_; rintro e w2 ⟨rfl, hb2⟩; have HT2 := h_ (HTW.out.below (Nat.le_refl _) hb2); clear hb2)
    | (go_at_call 216; with_reducible refine (HR2.out _ HT2.out.bel).mono ?_; rintro e w3 ⟨⟨x, rfl, ho3⟩, hb3⟩; rw [<- HL.out] at ho3; obtain ⟨av, cv, hv⟩ := own_val ho3; subst hv; have HO3 := h_ ho3; clear ho3; have hz3 := HT2.out.lt; have HT3 := h_ (HT2.out.below (Nat.le_refl _) hb3); clear hb3)
    | (go_at_call 216; with_reducible refine (HR3.out _ HT3.out.bel).mono ?_; rintro e w4 ⟨⟨y, rfl, ho4⟩, hb4⟩; rw [<- HN.out] at ho4; obtain ⟨aw, cw, hw⟩ := own_val ho4; subst hw; have HO4 := h_ ho4; clear ho4; have HO3b := h_ (own_below HO3.out hb4); have hz4 := HT3.out.lt; have HT4 := h_ (HT3.out.below (Nat.le_refl _) hb4); clear hb4)
    | ((refine copy_to rfl (.tmp 40) (.tmp 41) _ _ rfl 24 Tryz.underlying203 u16_size w w.heap.size Z8 false HT4.out (Nat.le_refl _) 0 8 8 rfl av L cv rfl u HL.out.symm _ (Sl.of_own HO3b.out) (by omega) (by omega) ?_); intro w5 ht5 hg5; have HT5 := h_ ht5; have HO5 := h_ (HO4.out.kept hg5 (own_off HO4.out (by omega))); clear ht5 hg5)
    | ((refine copy_to rfl (.tmp 46) (.tmp 47) _ _ rfl 24 Tryz.underlying203 u16_size w w.heap.size _ false HT5.out (Nat.le_refl _) o' N N rfl aw N cw rfl v HN.out.symm _ (Sl.of_own HO5.out) ho1 (Nat.le_refl _) ?_); intro w6 ht6 hg6; rw [HSPL.out] at ht6; have HT6 := h_ ht6; clear ht6 hg6)
    | (refine wpList_load_row rfl 25 (.tmp 2) rfl w.heap.size rfl _ _ _ _ HT6.out.a Tryz.underlying25 rfl (by rw [size8]; simp only [List.size_toArray, List.length_map, HT6.out.len]) ?_)
    | (refine wpList_store_row rfl 25 (.tmp 2) (.tmp 49) rfl w.heap.size (U16s (u ++ List.replicate (8 - L - N) 0 ++ v)).toArray rfl rfl _ _ HT6.out.a (by rw [size8]; simp only [List.size_toArray, List.length_map, HT6.out.len]) rfl (one8 _) ?_
       have ht7 := HT6.out.row (ds := (u ++ List.replicate (8 - L - N) 0 ++ v)) (Nat.le_refl _) HT6.out.len
       revert ht7
       generalize World.setRow _ w.heap.size (U16s (u ++ List.replicate (8 - L - N) 0 ++ v)).toArray = w7
       intro ht7
       obtain ⟨hc7, hz7⟩ := ht7.cell
       have HT7 := h_ ht7; clear ht7)
    | fail)
     exact leave_ret rfl rfl (HT7.out.set (Nat.le_refl _) true) (by rw [HR.out]; rfl) (by rw [HR.out]; rfl)

structure Out (w : World) (b : Nat) (cs ds : List Int) (wr : World) : Prop where
 a : wr.heap[b]? = some (.cells (U16s cs).toArray 25 (0, 0))
 x : wr.heap[b + 1]? = some (.cells (U16s ds).toArray 25 (0, 0))
 la : cs.length = 8
 lx : ds.length = 8
 bel : Below w.heap.size w wr
theorem Out.lt {w : World} {b : Nat} {cs ds : List Int} {wr : World} (h : Out w b cs ds wr) : b + 1 < wr.heap.size := (Array.getElem?_eq_some_iff.1 h.x).1
theorem Out.below {w : World} {b : Nat} {cs ds : List Int} {wr w2 : World} (h : Out w b cs ds wr) (hb : w.heap.size <= b) (h2 : Below wr.heap.size wr w2) : Out w b cs ds w2 := by
 have := h.lt
 exact ⟨(h2.block b (by omega)).trans h.a, (h2.block (b + 1) (by omega)).trans h.x, h.la, h.lx, h.bel.trans (h2.mono (by omega))⟩
theorem Out.row {w : World} {b : Nat} {cs ds es : List Int} {wr : World} (h : Out w b cs ds wr) (hb : w.heap.size <= b) (hd : es.length = 8) : Out w b es ds (wr.setRow b (U16s es).toArray) :=
 ⟨setRow_heap wr b _ _ _ _ h.a, (setRow_other wr b (b + 1) _ (by omega)).trans h.x, hd, h.lx, below_setRow h.bel hb _⟩
theorem Out.set {w : World} {b : Nat} {cs ds : List Int} {wr : World} (h : Out w b cs ds wr) (hb : w.heap.size <= b) (i : Nat) (n : Int) : Out w b cs (ds.set i n) (wr.setCell ⟨b + 1, i, none⟩ (.int .u16 n)) := by
 have e := setCell_eq_setRow wr (b + 1) i _ _ _ (.int .u16 n) h.x
 rw [e]
 have e2 : (U16s ds).toArray.setIfInBounds i (.int .u16 n) = (U16s (ds.set i n)).toArray := by
  rw [List.setIfInBounds_toArray]
  show ((ds.map (Value.int .u16)).set i (.int .u16 n)).toArray = ((ds.set i n).map (Value.int .u16)).toArray
  rw [List.map_set]
 rw [e2]
 exact ⟨(setRow_other wr (b + 1) b _ (by omega)).trans h.a, setRow_heap wr (b + 1) _ _ _ _ h.x, h.la, by rw [List.length_set]; exact h.lx, below_setRow h.bel (by omega) _⟩
theorem Out.cell {w : World} {b : Nat} {cs ds : List Int} {wr : World} (h : Out w b cs ds wr) (i : Nat) (hi : i < 8) : (∃ v, wr.cell? ⟨b + 1, i, none⟩ = some v) ∧ wr.frozen? ⟨b + 1, i, none⟩ = false := by
 constructor
 ·have : i < ds.length := by rw [h.lx]; exact hi
  exact ⟨.int .u16 ds[i], by simp [World.cell?, h.x, this]⟩
 ·simp [World.frozen?, h.x]
theorem cell_off (w : World) (b i g j : Nat) (v : Value) (h : g ≠ b) : (w.setCell ⟨b, i, none⟩ v).cell? ⟨g, j, none⟩ = w.cell? ⟨g, j, none⟩ := by
 apply World.cell?_of_block
 show (w.setCell ⟨b, i, none⟩ v).heap[g]? = w.heap[g]?
 simp [World.setCell, Array.getElem?_modify, Ne.symm h]

def OwnAt (w : World) (av : Option Addr) (b : Nat) (xs : List Int) : Prop := ∀ i (hi : i < xs.length), ∃ g, av = some ⟨g, 0, none⟩ ∧ g ≠ b ∧ w.cell? ⟨g, i, none⟩ = some (.int .i64 xs[i])
theorem OwnAt.of {w : World} {av : Option Addr} {B b n c : Nat} {xs : List Int} (h : w.ownsRow B 3 1 (.slice av n c) n (I64s xs)) (hb : b < B) : OwnAt w av b xs := by
 intro i hi
 rcases own_where h with ⟨_, h0⟩ | ⟨g, c', hv, hg1, _, hcv⟩
 ·have : (I64s xs).length = 0 := by rw [h0]; rfl
  rw [List.length_map] at this; omega
 ·injection hv with e1 _ _
  refine ⟨g, e1, by omega, ?_⟩
  have := hcv i (by rw [List.length_map]; exact hi)
  rw [Nat.zero_add] at this
  simpa using this
theorem OwnAt.set {w : World} {av : Option Addr} {b : Nat} {xs : List Int} (h : OwnAt w av b xs) (i : Nat) (v : Value) : OwnAt (w.setCell ⟨b, i, none⟩ v) av b xs := by
 intro j hj
 obtain ⟨g, h1, h2, h3⟩ := h j hj
 exact ⟨g, h1, h2, by rw [cell_off _ _ _ _ _ _ h2]; exact h3⟩
theorem OwnAt.below {w w2 : World} {av : Option Addr} {b : Nat} {xs : List Int} (h : OwnAt w av b xs) (hb : Below w.heap.size w w2) : OwnAt w2 av b xs := by
 intro j hj
 obtain ⟨g, h1, h2, h3⟩ := h j hj
 exact ⟨g, h1, h2, by rw [hb.cell (p := ⟨g, j, none⟩) (block_lt_of_cell h3)]; exact h3⟩

def nbF (c : Int) : Bool := badF c || decide (c < 32 ∨ c = 37 ∨ c = 127)
def H0 : Hst := { kind := 0, name := [], four := 0, six := Z8 }
def brF (s : Bytes) : Option Hst := if Lib.hasSuffix s [93] = true then (match sixPF (Lib.trimSuffix s [93]) with | none => none | some a => some { H0 with kind := 4, six := a }) else none
def nmF (s : Bytes) : Option Hst :=
 match domF (pdF s) with
 | none => none
 | some n => if n = [] then none else if n.any (fun x => nbF (b2 x)) = true then none else if endsF n = true then (match fparse n with | none => none | some v => some { H0 with kind := 3, four := v }) else some { H0 with kind := 2, name := n }
def hostP (s : Bytes) (special : Bool) : Option Hst :=
 if s.head? = some 91 then brF (s.drop 1)
 else if special = true then nmF s
 else if s = [] then some { H0 with kind := 1 }
 else if s.any (fun x => badF (b2 x)) = true then none
 else some { H0 with kind := 5, name := pcB 0 s }
theorem any_at {f : UInt8 -> Bool} {l : Bytes} (h : ∀ k (hk : k < l.length), f l[k] = false) : l.any f = false := by
 rw [List.any_eq_false]
 intro x hx
 obtain ⟨k, hk, rfl⟩ := List.getElem_of_mem hx
 simp [h k hk]
theorem any_yes {f : UInt8 -> Bool} {l : Bytes} {k : Nat} (hk : k < l.length) (h : f l[k] = true) : l.any f = true := List.any_eq_true.mpr ⟨l[k], List.getElem_mem hk, h⟩

theorem pc_same {set : Int} {l : Bytes} (h : ∀ y ∈ l, inF set (b2 y) = false) : pcB set l = l := by
 induction l with
 | nil => rfl
 | cons x r ih =>
  have e : pcB set (x :: r) = pcF set x ++ pcB set r := by unfold pcB; simp
  rw [e, ih (fun y hy => h y (by simp [hy]))]
  unfold pcF
  rw [if_neg (by rw [h x (by simp)]; simp)]
  rfl
inductive HKind (s : Bytes) (sp : Bool) : Hst -> Prop where
 | six (a : List Int) (h8 : a.length = 8) (ha : ∀ n ∈ a, 0 <= n ∧ n < 65536) (hs : s.head? = some 91) : HKind s sp { H0 with kind := 4, six := a }
 | name (n : Bytes) (e : sp = true) (hs : s.head? ≠ some 91) (hd : domF (pdF s) = some n) (hn : n ≠ []) (hb : ∀ y ∈ n, nbF (b2 y) = false) (he : endsF n = false) : HKind s sp { H0 with kind := 2, name := n }
 | four (n : Nat) (e : sp = true) (hs : s.head? ≠ some 91) (h : n < 4294967296) : HKind s sp { H0 with kind := 3, four := n }
 | empty (e : sp = false) (h : s = []) : HKind s sp { H0 with kind := 1 }
 | opaq (e : sp = false) (hs : s.head? ≠ some 91) (h : s ≠ []) (hb : ∀ y ∈ s, badF (b2 y) = false) : HKind s sp { H0 with kind := 5, name := pcB 0 s }
theorem any_no {α : Type} {f : α -> Bool} {l : List α} (h : ¬ l.any f = true) : ∀ y ∈ l, f y = false := by
 have h2 : l.any f = false := by simpa using h
 intro y hy
 have := List.any_eq_false.mp h2 y hy
 simpa using this
theorem hkind {s : Bytes} {sp : Bool} {h : Hst} (e : hostP s sp = some h) : HKind s sp h := by
 unfold hostP at e
 by_cases h1 : s.head? = some 91
 ·rw [if_pos h1] at e
  unfold brF at e
  split at e
  ·cases hs : sixPF (Lib.trimSuffix (s.drop 1) [93]) with
   | none => rw [hs] at e; cases e
   | some a =>
    rw [hs] at e
    injection e with e
    subst e
    exact .six a (sixP_range hs).1 (sixP_range hs).2 h1
  ·cases e
 rw [if_neg h1] at e
 cases sp with
 | true =>
  rw [if_pos rfl] at e
  unfold nmF at e
  cases hd : domF (pdF s) with
  | none => rw [hd] at e; cases e
  | some n =>
   rw [hd] at e
   dsimp only at e
   split at e
   ·cases e
   next hn =>
   split at e
   ·cases e
   next hb =>
   split at e
   ·next he =>
    cases hf : fparse n with
    | none => rw [hf] at e; cases e
    | some v =>
     rw [hf] at e
     injection e with e
     subst e
     have hv := fparse_range hf
     obtain ⟨m, hm⟩ : ∃ m : Nat, v = m := ⟨v.toNat, by omega⟩
     subst hm
     exact .four m rfl h1 (by omega)
   ·next he =>
    injection e with e
    subst e
    exact .name n rfl h1 hd hn (any_no hb) (by simpa using he)
 | false =>
  rw [if_neg (by simp)] at e
  split at e
  ·next hn =>
   injection e with e
   subst e
   exact .empty rfl hn
  ·next hn =>
   split at e
   ·cases e
   ·next hb =>
    injection e with e
    subst e
    exact .opaq rfl h1 hn (any_no hb)

abbrev hCells (h : Hst) : Array Value := (hstCells h).toArray
theorem allH (w : World) : (Instr.alloc 27 true (Value.tuple #[])).run Tryz.prog w = .ok (.pointer (some ⟨w.heap.size, 0, none⟩)) (w.alloc (.cells (hCells H0) 27)) := by kernel_rfl
theorem bldH0 : ∀ w, (Instr.build 27 #[]).run Tryz.prog w = .ok (.agg (hCells H0)) w := fun w => by kernel_rfl
theorem bldH1 : ∀ w, (Instr.build 27 #[(0, .int .i64 1)]).run Tryz.prog w = .ok (.agg (hCells { H0 with kind := 1 })) w := fun w => by kernel_rfl
theorem bldH2 (n : Bytes) : ∀ w, (Instr.build 27 #[(0, .int .i64 2), (1, .string (bs n))]).run Tryz.prog w = .ok (.agg (hCells { H0 with kind := 2, name := n })) w := fun w => by kernel_rfl
theorem bldH5 (n : Bytes) : ∀ w, (Instr.build 27 #[(0, .int .i64 5), (1, .string (bs n))]).run Tryz.prog w = .ok (.agg (hCells { H0 with kind := 5, name := n })) w := fun w => by kernel_rfl
theorem bldH3 (v : Int) : ∀ w, (Instr.build 27 #[(0, .int .i64 3), (2, .int .u32 v)]).run Tryz.prog w = .ok (.agg (hCells { H0 with kind := 3, four := v })) w := fun w => by kernel_rfl
theorem bldH4 (a : List Int) (h : a.length = 8) : ∀ w, (Instr.build 27 #[(0, .int .i64 4), (3, .agg (U16s a).toArray)]).run Tryz.prog w = .ok (.agg (hCells { H0 with kind := 4, six := a })) w := fun w => by
 obtain ⟨a, b, c, d, e, f, g, i, rfl⟩ := eight h
 kernel_rfl
theorem hsize (h : Hst) (hl : h.six.length = 8) : (Tryz.prog.info? 27).map (·.size) = some (hCells h).size := by
 rw [host_info]; simp [hstCells, hl]
theorem honec (h : Hst) : (hCells h).all (·.oneCell') = true := by
 rw [Array.all_eq_true]
 intro i hi
 have hm : (hCells h)[i] ∈ hstCells h := by simp
 simp only [hstCells, List.mem_cons, List.mem_map] at hm
 rcases hm with e | e | e | ⟨_, _, e⟩ <;> first | (rw [e]; rfl) | (rw [<- e]; rfl)
structure InB (w : World) (b : Nat) (h : Hst) (wr : World) : Prop where
 a : wr.heap[b]? = some (.cells (hCells h) 27 (0, 0))
 l : h.six.length = 8
 bel : Below w.heap.size w wr
theorem InB.lt {w : World} {b : Nat} {h : Hst} {wr : World} (i : InB w b h wr) : b < wr.heap.size := (Array.getElem?_eq_some_iff.1 i.a).1
theorem InB.below {w : World} {b : Nat} {h : Hst} {wr w2 : World} (i : InB w b h wr) (hb : w.heap.size <= b) (h2 : Below wr.heap.size wr w2) : InB w b h w2 := by
 have := i.lt
 exact ⟨(h2.block b (by omega)).trans i.a, i.l, i.bel.trans (h2.mono (by omega))⟩
theorem InB.alloc {w : World} {b : Nat} {h : Hst} {wr : World} (i : InB w b h wr) (o : Obj) (hb : w.heap.size <= b) : InB w b h (wr.alloc o) := i.below hb ((Below.refl _ wr).alloc (Nat.le_refl _) o)
theorem InB.put {w : World} {b : Nat} {h g : Hst} {wr : World} (i : InB w b h wr) (hb : w.heap.size <= b) (hl : g.six.length = 8) : InB w b g (wr.setRow b (hCells g)) :=
 ⟨setRow_heap wr b _ _ _ _ i.a, hl, below_setRow i.bel hb _⟩
theorem inB_fresh (w : World) : InB w w.heap.size H0 (w.alloc (.cells (hCells H0) 27)) := ⟨heap_alloc_new w _, rfl, (Below.refl _ w).alloc (Nat.le_refl _) _⟩
abbrev hostE (o : Option Hst) : Ending := .returned (.tuple #[.agg (hCells (o.getD H0)), .bool o.isSome])
theorem load_host (w : World) (b : Nat) (h : Hst) (i : w.heap[b]? = some (.cells (hCells h) 27 (0, 0))) (hl : h.six.length = 8) : (loadVar 27 ⟨b, 0, none⟩).run Tryz.prog w = .ok (.agg (hCells h)) w :=
 run_loadVar_row (P := Tryz.prog) w b 27 27 (hCells h) (0, 0) _ i Tryz.underlying27 rfl (hsize h hl)
theorem put_host {ops : Array Oper} {rest : List Oper} {o : Oper} {a : Act} {w : World} {Q : Exit -> Act -> World -> Prop} (hgd : o.guard = none) (x y : Operand) (ho : o.op = .store 27 x y)
  (w0 : World) (b : Nat) (h g : Hst) (i : InB w0 b h w) (hb : w0.heap.size <= b) (hl : g.six.length = 8) (hx : a.eval x = .pointer (some ⟨b, 0, none⟩)) (hy : a.eval y = .agg (hCells g))
  (k : ∀ w', InB w0 b g w' -> wpList Tryz.prog ops Q rest (a.put o.dst undef) w') : wpList Tryz.prog ops Q (o :: rest) a w := by
 refine wpList_store_row hgd _ x y ho b (hCells g) hx hy _ _ i.a (hsize g hl) ?_ (honec g) (k _ (i.put hb hl))
 simp [hstCells, i.l, hl]
theorem build2 {ops : Array Oper} {rest : List Oper} {o : Oper} {a : Act} {w : World} {Q : Exit -> Act -> World -> Prop} (hgd : o.guard = none) (i j : Nat) (x y : Operand) (ho : o.op = .build 27 #[(i, x), (j, y)])
  (X Y v : Value) (hx : a.eval x = X) (hy : a.eval y = Y) (hr : ∀ w, (Instr.build 27 #[(i, X), (j, Y)]).run Tryz.prog w = .ok v w) (k : wpList Tryz.prog ops Q rest (a.put o.dst v) w) : wpList Tryz.prog ops Q (o :: rest) a w := by
 refine build_to hgd _ _ ho v #[(i, X), (j, Y)] ?_ hr k
 subst hx; subst hy
 simp
theorem build1 {ops : Array Oper} {rest : List Oper} {o : Oper} {a : Act} {w : World} {Q : Exit -> Act -> World -> Prop} (hgd : o.guard = none) (i : Nat) (x : Operand) (ho : o.op = .build 27 #[(i, x)])
  (X v : Value) (hx : a.eval x = X) (hr : ∀ w, (Instr.build 27 #[(i, X)]).run Tryz.prog w = .ok v w) (k : wpList Tryz.prog ops Q rest (a.put o.dst v) w) : wpList Tryz.prog ops Q (o :: rest) a w := by
 refine build_to hgd _ _ ho v #[(i, X)] ?_ hr k
 subst hx
 simp
theorem cs_any (l m : Bytes) (w : World) (hl : l.length <= 1024000000) : Calls Tryz.prog 154 #[.string (bs l), .string (bs m)] w fun e w' => e = .returned (.tuple #[S (Lib.trimSuffix l m), .bool (Lib.hasSuffix l m)]) ∧ w' = w := by
 have h := Any.strings_CutSuffix Tryz.laysCutS (bs l) (bs m) w (by rw [bs_size]; omega)
 rw [show (bs l).data.toList = l from ls_bs l, show (bs m).data.toList = m from ls_bs m] at h
 exact h
theorem trim_len (l m : Bytes) : (Lib.trimSuffix l m).length <= l.length := by
 unfold Lib.trimSuffix
 split
 ·rw [List.length_take]; omega
 ·exact Nat.le_refl _
theorem bres {tmps : Array Value} {w w2 : World} {b : Nat} {h : Hst} {q : Bool} (h2 : tmps.getD 2 undef = .pointer (some ⟨b, 0, none⟩)) (h3 : tmps.getD 3 undef = .bool q) (i : InB w b h w2) {R : Option Hst} (hR : h = R.getD H0) (hq : q = R.isSome) :
  bodyPost Tryz.prog Tryz.f203 (fun e w' => e = hostE R ∧ Below w.heap.size w w') Exit.ret { tmps := tmps, defers := [] } w2 := by
 have h2' : tmps[2]?.getD undef = .pointer (some ⟨b, 0, none⟩) := by simpa using h2
 have h3' : tmps[3]?.getD undef = .bool q := by simpa using h3
 have hl := load_host w2 b h i.a i.l
 refine bodyPost_ret (v := .tuple #[.agg (hCells h), .bool q]) ?_ rfl ⟨by rw [hR, hq], i.bel⟩
 simp [results, Tryz.results203, asAddr, h2', h3', hl]
theorem bracketed_any (l : Bytes) (w : World) (hl : l.length <= 1024000000) (hE : Env w) : Calls Tryz.prog 203 #[.string (bs l)] w fun e w' => e = hostE (brF l) ∧ Below w.heap.size w w' := by
 have hcs := fun W => cs_any l [93] W hl
 rw [show bs [93] = ⟨#[93]⟩ from rfl] at hcs
 have htl := trim_len l [93]
 have hsx := fun W (h : Below w.heap.size w W) => sixparse_any (Lib.trimSuffix l [93]) W (by omega) (hE.below h)
 obtain ⟨R, hR⟩ := ex_ (brF l)
 rw [<- hR]
 unfold brF at hR
 have hrg := fun a (h : sixPF (Lib.trimSuffix l [93]) = some a) => (sixP_range h).1
 obtain ⟨T, hT⟩ := ex_ (Lib.trimSuffix l [93])
 rw [<- hT] at hcs hsx hR hrg
 obtain ⟨q, hq⟩ := ex_ (Lib.hasSuffix l [93])
 rw [<- hq] at hcs hR
 clear hT hq htl hE
 obtain ⟨s, hs⟩ := ex_ (bs l)
 rw [<- hs] at hcs ⊢
 clear hs hl
 have HCS := h_ hcs; clear hcs
 have HI := h_ (inB_fresh w)
 cases q with
 | false =>
  rw [if_neg (by simp)] at hR
  have HR := h_ hR; clear hR hsx hrg
  go_enter Tryz.func203, Tryz.ntmps203
  go_wp2_with (first
   | (refine alloc_to rfl 27 rfl _ _ (allH _) ?_)
   | (go_at_call 154; refine (HCS.out _).mono ?_; rintro e w2 ⟨rfl, hw2⟩; subst hw2)
   | (refine build_to rfl 27 #[] rfl (.agg (hCells H0)) #[] rfl bldH0 ?_)
   | (refine put_host rfl (.tmp 2) (.tmp 15) rfl w w.heap.size _ H0 HI.out (Nat.le_refl _) rfl rfl rfl ?_; intro w3 i3; have HI3 := h_ i3; clear i3)
   | fail)
  exact bres rfl rfl HI3.out (by rw [HR.out]; rfl) (by rw [HR.out]; rfl)
 | true =>
  rw [if_pos rfl] at hR
  cases hsix : sixPF T with
  | none =>
   rw [hsix] at hR hsx
   change ∀ W, Below w.heap.size w W -> Calls _ _ _ W fun e w' => e = .returned (.tuple #[.agg (U16s Z8).toArray, .bool false]) ∧ Below W.heap.size W w' at hsx
   have HR := h_ hR; clear hR hrg hsix
   have HSX := h_ hsx; clear hsx
   go_enter Tryz.func203, Tryz.ntmps203
   go_wp2_with (first
    | (refine alloc_to rfl 27 rfl _ _ (allH _) ?_)
    | (go_at_call 154; refine (HCS.out _).mono ?_; rintro e w2 ⟨rfl, hw2⟩; subst hw2)
    | (go_at_call 210; refine (HSX.out _ HI.out.bel).mono ?_; rintro e w2 ⟨rfl, hb2⟩; have HI2 := h_ (HI.out.below (Nat.le_refl _) hb2); clear hb2)
    | (refine alloc_to rfl 25 rfl _ _ (all8z _) ?_)
    | (refine store_new rfl 25 (.tmp 6) (.tmp 19) rfl (U16s Z8).toArray (U16s Z8).toArray _ rfl rfl (by rw [size8]; rfl) rfl (one8 _) ?_; have HI3 := h_ (HI2.out.alloc (.cells (U16s Z8).toArray 25) (Nat.le_refl _)))
    | (refine build_to rfl 27 #[] rfl (.agg (hCells H0)) #[] rfl bldH0 ?_)
    | (refine put_host rfl (.tmp 2) (.tmp 23) rfl w w.heap.size _ H0 HI3.out (Nat.le_refl _) rfl rfl rfl ?_; intro w4 i4; have HI4 := h_ i4; clear i4)
    | fail)
   exact bres rfl rfl HI4.out (by rw [HR.out]; rfl) (by rw [HR.out]; rfl)
  | some a =>
   rw [hsix] at hR hsx
   change ∀ W, Below w.heap.size w W -> Calls _ _ _ W fun e w' => e = .returned (.tuple #[.agg (U16s a).toArray, .bool true]) ∧ Below W.heap.size W w' at hsx
   have ha := hrg a hsix
   have HA8 := h_ ha
   have hbl := bldH4 a ha
   obtain ⟨G, hG⟩ : ∃ G : Hst, G = { H0 with kind := 4, six := a } := ⟨_, rfl⟩
   have hG8 : G.six.length = 8 := by rw [hG]; exact ha
   replace hR : R = some G := by rw [hR, hG]
   rw [<- hG] at hbl
   clear hG
   have HG8 := h_ hG8; clear hG8
   have HBL := h_ hbl; clear hbl
   have HR := h_ hR; clear hR hrg hsix ha
   have HSX := h_ hsx; clear hsx
   obtain ⟨ca, hca⟩ := ex_ ((U16s a).toArray)
   rw [<- hca] at HSX HBL
   have h8 : ca.size = 8 := by rw [hca]; simp [HA8.out]
   have hon : ca.all (·.oneCell') = true := by rw [hca]; exact one8 a
   clear hca
   have HON := h_ hon; clear hon
   go_enter Tryz.func203, Tryz.ntmps203
   go_wp2_with (first
    | (refine alloc_to rfl 27 rfl _ _ (allH _) ?_)
    | (go_at_call 154; refine (HCS.out _).mono ?_; rintro e w2 ⟨rfl, hw2⟩; subst hw2)
    | (go_at_call 210; refine (HSX.out _ HI.out.bel).mono ?_; rintro e w2 ⟨rfl, hb2⟩; have HI2 := h_ (HI.out.below (Nat.le_refl _) hb2); clear hb2)
    | (refine alloc_to rfl 25 rfl _ _ (all8z _) ?_)
    | (refine store_new rfl 25 (.tmp 6) (.tmp 19) rfl ca (U16s Z8).toArray _ rfl rfl (by rw [size8, h8]) (by rw [h8]; rfl) HON.out ?_; have HI3 := h_ (HI2.out.alloc (.cells ca 25) (Nat.le_refl _)))
    | (refine load_new rfl 25 (.tmp 6) rfl ca _ rfl _ Tryz.underlying25 rfl (by rw [size8, h8]) ?_)
    | (refine build2 rfl 0 3 (.const (.int .i64 4)) (.tmp 24) rfl (.int .i64 4) (.agg ca) (.agg (hCells G)) rfl rfl HBL.out ?_)
    | (refine put_host rfl (.tmp 2) (.tmp 25) rfl w w.heap.size _ G HI3.out (Nat.le_refl _) HG8.out rfl rfl ?_; intro w4 i4; have HI4 := h_ i4; clear i4)
    | fail)
   exact bres rfl rfl HI4.out (by rw [HR.out]; rfl) (by rw [HR.out]; rfl)

theorem nres {tmps : Array Value} {w w2 : World} {b : Nat} {h : Hst} {q : Bool} (h2 : tmps.getD 2 undef = .pointer (some ⟨b, 0, none⟩)) (h3 : tmps.getD 3 undef = .bool q) (i : InB w b h w2) {R : Option Hst} (hR : h = R.getD H0) (hq : q = R.isSome) :
  bodyPost Tryz.prog Tryz.f204 (fun e w' => e = hostE R ∧ Below w.heap.size w w') Exit.ret { tmps := tmps, defers := [] } w2 := by
 have h2' : tmps[2]?.getD undef = .pointer (some ⟨b, 0, none⟩) := by simpa using h2
 have h3' : tmps[3]?.getD undef = .bool q := by simpa using h3
 have hl := load_host w2 b h i.a i.l
 refine bodyPost_ret (v := .tuple #[.agg (hCells h), .bool q]) ?_ rfl ⟨by rw [hR, hq], i.bel⟩
 simp [results, Tryz.results204, asAddr, h2', h3', hl]
theorem pdF_len : ∀ (n : Nat) (l : Bytes), l.length <= n -> (pdF l).length <= l.length
 | 0, l, h => by
  obtain rfl : l = [] := List.eq_nil_of_length_eq_zero (by omega)
  simp [pdF]
 | n + 1, [], _ => by simp [pdF]
 | n + 1, [c], _ => by simp [pdF]
 | n + 1, [c, x], _ => by simp [pdF]
 | n + 1, c :: x :: y :: t, h => by
  rw [pdF]
  split
  ·have := pdF_len n t (by simp at h; omega)
   simp; omega
  ·have := pdF_len n (x :: y :: t) (by simp at h ⊢; omega)
   simp at this ⊢; omega
theorem named_any (l : Bytes) (w : World) (hl : l.length <= 307200000) (ht : (toldF (signs (pdF l))).length <= 102400000) (hn : ∀ n, domF (pdF l) = some n -> n.length <= 102400000) (hE : Env w) :
  Calls Tryz.prog 204 #[.string (bs l)] w fun e w' => e = hostE (nmF l) ∧ Below w.heap.size w w' := by
 have hpd := fun W => pdecode_any l W (by omega)
 have hpl := pdF_len _ l (Nat.le_refl _)
 have hdm := fun W (h : Below w.heap.size w W) => domain_any (pdF l) W (by omega) ht (hE.below h)
 obtain ⟨R, hR⟩ := ex_ (nmF l)
 rw [<- hR]
 unfold nmF at hR
 obtain ⟨D, hD⟩ := ex_ (pdF l)
 rw [<- hD] at hpd hdm hR hn
 clear hD hpl ht hl
 obtain ⟨s, hs⟩ := ex_ (bs l)
 rw [<- hs] at hpd ⊢
 clear hs
 have HPD := h_ hpd; clear hpd
 have HEV := h_ hE; clear hE
 have HI := h_ (inB_fresh w)
 cases hd : domF D with
 | none =>
  rw [hd] at hR hdm
  have HR := h_ (show R = none from hR); clear hR hn hd
  change ∀ W, Below w.heap.size w W -> Calls _ _ _ W fun e w' => e = .returned (.tuple #[S [], .bool false]) ∧ Below W.heap.size W w' at hdm
  have HDM := h_ hdm; clear hdm
  go_enter Tryz.func204, Tryz.ntmps204
  go_wp2_with (first
   | (refine alloc_to rfl 27 rfl _ _ (allH _) ?_)
   | (go_at_call 212; refine (HPD.out _).mono ?_; rintro e w2 ⟨v, rfl, ho2, hb2⟩; have HCV := h_ (conv_own (P := Tryz.prog) (src := 38) (dst := 9) Tryz.underlying38 Tryz.underlying5 Tryz.underlying9 ho2); have hcv := HCV.out; clear ho2; have HI2 := h_ (HI.out.below (Nat.le_refl _) hb2); clear hb2)
   | (go_at_call 211; refine (HDM.out _ HI2.out.bel).mono ?_; rintro e w3 ⟨rfl, hb3⟩; have HI3 := h_ (HI2.out.below (Nat.le_refl _) hb3); clear hb3)
   | (refine build_to rfl 27 #[] rfl (.agg (hCells H0)) #[] rfl bldH0 ?_)
   | (refine put_host rfl (.tmp 2) (.tmp 22) rfl w w.heap.size _ H0 HI3.out (Nat.le_refl _) rfl rfl rfl ?_; intro w4 i4; have HI4 := h_ i4; clear i4)
   | fail)
  exact nres rfl rfl HI4.out (by rw [HR.out]; rfl) (by rw [HR.out]; rfl)
 | some n =>
  rw [hd] at hR hdm
  have hnm := hn n hd
  replace hR : R = if n = [] then none else if n.any (fun x => nbF (b2 x)) = true then none else if endsF n = true then (match fparse n with | none => none | some v => some { H0 with kind := 3, four := v }) else some { H0 with kind := 2, name := n } := hR
  have hen := fun W (h : Below w.heap.size w W) => ends_any n W hnm (HEV.out.below h)
  have hfp := fun W (h : Below w.heap.size w W) => fparse_any n W hnm (HEV.out.below h)
  have hyes : ∀ k (hk : k < n.length), nbF (b2 n[k]) = true -> (n.any fun x => nbF (b2 x)) = true := fun k hk h => any_yes (f := fun x => nbF (b2 x)) hk h
  have hno : (∀ k (hk : k < n.length), nbF (b2 n[k]) = false) -> (n.any fun x => nbF (b2 x)) = false := fun h => any_at (f := fun x => nbF (b2 x)) h
  have hb2 := bldH2 n
  obtain ⟨G2, hG2⟩ : ∃ G : Hst, G = { H0 with kind := 2, name := n } := ⟨_, rfl⟩
  have hG28 : G2.six.length = 8 := by rw [hG2]; rfl
  rw [<- hG2] at hb2 hR
  clear hG2
  obtain ⟨u, hu⟩ := ex_ (bs n)
  change ∀ W, Below w.heap.size w W -> Calls _ _ _ W fun e w' => e = .returned (.tuple #[.string (bs n), .bool true]) ∧ Below W.heap.size W w' at hdm
  rw [<- hu] at hdm hen hfp hb2
  have hsz : u.size = n.length := by rw [hu, bs_size]
  have hby : ∀ k (hk : k < u.size) (hk2 : k < n.length), ((u[k]'hk).toNat : Int) = b2 n[k] := fun k hk hk2 => str_at hu hk hk2
  have hue : (u.toList = []) ↔ n = [] := by rw [hu, toList_bs]
  clear hu hn hd
  have HDM := h_ hdm; clear hdm
  by_cases hnil : n = []
  ·rw [if_pos hnil] at hR
   have he2 := hue.mpr hnil
   have he : u.toList.isEmpty = true := by rw [he2]; rfl
   have HR := h_ hR; clear hR hen hfp hyes hno hb2 hby hue hnil hsz hG28
   go_enter Tryz.func204, Tryz.ntmps204
   go_wp2_with (first
   | (refine alloc_to rfl 27 rfl _ _ (allH _) ?_)
   | (go_at_call 212; refine (HPD.out _).mono ?_; rintro e w2 ⟨v, rfl, ho2, hb2⟩; have HCV := h_ (conv_own (P := Tryz.prog) (src := 38) (dst := 9) Tryz.underlying38 Tryz.underlying5 Tryz.underlying9 ho2); have hcv := HCV.out; clear ho2; have HI2 := h_ (HI.out.below (Nat.le_refl _) hb2); clear hb2)
   | (go_at_call 211; refine (HDM.out _ HI2.out.bel).mono ?_; rintro e w3 ⟨rfl, hb3⟩; have HI3 := h_ (HI2.out.below (Nat.le_refl _) hb3); clear hb3)
   | (refine build_to rfl 27 #[] rfl (.agg (hCells H0)) #[] rfl bldH0 ?_)
   | (refine put_host rfl (.tmp 2) (.tmp 22) rfl w w.heap.size _ H0 HI3.out (Nat.le_refl _) rfl rfl rfl ?_; intro w4 i4; have HI4 := h_ i4; clear i4)
   | fail)
   exact nres rfl rfl HI4.out (by rw [HR.out]; rfl) (by rw [HR.out]; rfl)
  rw [if_neg hnil] at hR
  have he2 : ¬ u.toList = [] := fun h => hnil (hue.mp h)
  have he : u.toList.isEmpty = false := by simpa using he2
  obtain ⟨N, hN⟩ := ex_ (u.size)
  have hsN : u.size = N := hN.symm
  have hNm : N <= 102400000 := by omega
  have HSZ := h_ (show N = n.length by omega); clear hN hsz hnm hue hnil
  have HBY := h_ hby; clear hby
  have HYES := h_ hyes; clear hyes
  have HNO := h_ hno; clear hno
  have HR := h_ hR; clear hR
  have HEN := h_ hen; clear hen
  have HFP := h_ hfp; clear hfp
  have HB2 := h_ hb2; clear hb2
  have HG28 := h_ hG28; clear hG28
  go_enter Tryz.func204, Tryz.ntmps204
  go_wp2_with (first
   | (refine alloc_to rfl 27 rfl _ _ (allH _) ?_)
   | (go_at_call 212; refine (HPD.out _).mono ?_; rintro e w2 ⟨v, rfl, ho2, hb2⟩; have HCV := h_ (conv_own (P := Tryz.prog) (src := 38) (dst := 9) Tryz.underlying38 Tryz.underlying5 Tryz.underlying9 ho2); have hcv := HCV.out; clear ho2; have HI2 := h_ (HI.out.below (Nat.le_refl _) hb2); clear hb2)
   | (go_at_call 211; refine (HDM.out _ HI2.out.bel).mono ?_; rintro e w3 ⟨rfl, hb3⟩; have HI3 := h_ (HI2.out.below (Nat.le_refl _) hb3); clear hb3)
   | fail)
  go_loopw [25] (fun iv wr => ∃ k : Nat, k <= N ∧ iv = .int .i64 k ∧ Hid (∀ j (hj : j < n.length), j < k -> nbF (b2 n[j]) = false) ∧ w3 = wr) (fun i _ => N - (intOf i).toNat)
  case atStart => exact ⟨0, Nat.zero_le _, by simp, fun j _ h => absurd h (Nat.not_lt_zero j), rfl⟩
  case round =>
   obtain ⟨k, hk, rfl, hall, rfl⟩ := hrel
   by_cases hlt : k < N
   ·have hku : k < u.size := by rw [hsN]; exact hlt
    have hkl : k < n.length := by have := HSZ.out; omega
    have hx := HBY.out k hku hkl
    have hy : nbF (b2 n[k]) = true -> R = none := fun h => by rw [HR.out, if_pos (HYES.out k hkl h)]
    have hsn : nbF (b2 n[k]) = false -> ∀ j (hj : j < n.length), j < k + 1 -> nbF (b2 n[j]) = false := fun h j hj h1 => by
     rcases Nat.lt_or_ge j k with h2 | h2
     ·exact hall.out j hj h2
     ·obtain rfl : j = k := by omega
      exact h
    have hbd := fun W => bad_any (b2 n[k]) W
    generalize b2 n[k] = X at hx hy hsn hbd
    have HBD := h_ hbd; clear hbd hall
    have hdef : nbF X = (badF X || decide (X < 32 ∨ X = 37 ∨ X = 127)) := rfl
    rw [hdef] at hy hsn
    clear hdef
    obtain ⟨q, hq⟩ := ex_ (badF X)
    rw [<- hq] at hy hsn HBD
    have HQ := h_ hq; clear hq
    cases q with
    | true =>
     have HF := h_ (hy rfl); clear hy hsn
     go_wp2_with (first
      | (go_at_call 205; refine (HBD.out _).mono ?_; rintro e w4 ⟨rfl, hw4⟩; subst hw4)
      | (refine build_to rfl 27 #[] rfl (.agg (hCells H0)) #[] rfl bldH0 ?_)
      | (refine put_host rfl (.tmp 2) (.tmp 45) rfl w w.heap.size _ H0 HI3.out (Nat.le_refl _) rfl rfl rfl ?_; intro w5 i5; have HI5 := h_ i5; clear i5)
      | fail)
     exact nres rfl rfl HI5.out (by rw [HF.out]; rfl) (by rw [HF.out]; rfl)
    | false =>
     by_cases h1 : X < 32
     ·have HF := h_ (hy (by simp [h1])); clear hy hsn
      go_wp2_with (first
       | (go_at_call 205; refine (HBD.out _).mono ?_; rintro e w4 ⟨rfl, hw4⟩; subst hw4)
       | (refine build_to rfl 27 #[] rfl (.agg (hCells H0)) #[] rfl bldH0 ?_)
       | (refine put_host rfl (.tmp 2) (.tmp 45) rfl w w.heap.size _ H0 HI3.out (Nat.le_refl _) rfl rfl rfl ?_; intro w5 i5; have HI5 := h_ i5; clear i5)
       | fail)
      exact nres rfl rfl HI5.out (by rw [HF.out]; rfl) (by rw [HF.out]; rfl)
     ·by_cases h2 : X = 37
      ·have HF := h_ (hy (by simp [h2])); clear hy hsn
       subst h2
       go_wp2_with (first
        | (go_at_call 205; refine (HBD.out _).mono ?_; rintro e w4 ⟨rfl, hw4⟩; subst hw4)
        | (refine build_to rfl 27 #[] rfl (.agg (hCells H0)) #[] rfl bldH0 ?_)
        | (refine put_host rfl (.tmp 2) (.tmp 45) rfl w w.heap.size _ H0 HI3.out (Nat.le_refl _) rfl rfl rfl ?_; intro w5 i5; have HI5 := h_ i5; clear i5)
        | fail)
       exact nres rfl rfl HI5.out (by rw [HF.out]; rfl) (by rw [HF.out]; rfl)
      ·have q2 : (X == 37) = false := by simpa using h2
       by_cases h3 : X = 127
       ·have HF := h_ (hy (by simp [h3])); clear hy hsn
        subst h3
        go_wp2_with (first
         | (go_at_call 205; refine (HBD.out _).mono ?_; rintro e w4 ⟨rfl, hw4⟩; subst hw4)
         | (refine build_to rfl 27 #[] rfl (.agg (hCells H0)) #[] rfl bldH0 ?_)
         | (refine put_host rfl (.tmp 2) (.tmp 45) rfl w w.heap.size _ H0 HI3.out (Nat.le_refl _) rfl rfl rfl ?_; intro w5 i5; have HI5 := h_ i5; clear i5)
         | fail)
        exact nres rfl rfl HI5.out (by rw [HF.out]; rfl) (by rw [HF.out]; rfl)
       ·have q3 : (X == 127) = false := by simpa using h3
        have HS := h_ (hsn (by simp [h1, h2, h3])); clear hy hsn
        go_wp2_with (first
         | (go_at_call 205; refine (HBD.out _).mono ?_; rintro e w4 ⟨rfl, hw4⟩; subst hw4)
         | fail)
        go_roundw
        case rel => exact ⟨k + 1, by omega, by simp, HS.out, by trivial⟩
        case measure => simp [intOf]; omega
   ·obtain rfl : k = N := by omega
    have hr := HR.out
    rw [if_neg (by rw [HNO.out (fun j hj => hall.out j hj (by have := HSZ.out; omega))]; simp)] at hr
    clear HR
    cases hef : endsF n with
    | false =>
     rw [hef, if_neg (by simp)] at hr
     rw [hef] at HEN
     have HR := h_ hr; clear hr hef hall
     go_wp2_with (first
      | (go_at_call 213; refine (HEN.out _ HI3.out.bel).mono ?_; rintro e w4 ⟨rfl, hb4⟩; have HI4 := h_ (HI3.out.below (Nat.le_refl _) hb4); clear hb4)
      | (refine build2 rfl 0 1 (.const (.int .i64 2)) (.tmp 50) rfl (.int .i64 2) (.string u) (.agg (hCells G2)) rfl rfl HB2.out ?_)
      | (refine put_host rfl (.tmp 2) (.tmp 51) rfl w w.heap.size _ G2 HI4.out (Nat.le_refl _) HG28.out rfl rfl ?_; intro w5 i5; have HI5 := h_ i5; clear i5)
      | fail)
     exact nres rfl rfl HI5.out (by rw [HR.out]; rfl) (by rw [HR.out]; rfl)
    | true =>
     rw [hef, if_pos rfl] at hr
     rw [hef] at HEN
     cases hfq : fparse n with
     | none =>
      rw [hfq] at hr HFP
      have HR := h_ (show R = none from hr); clear hr hef hall hfq
      replace HFP := h_ (show ∀ W, Below w.heap.size w W -> Calls Tryz.prog 214 #[.string u] W fun e w' => e = .returned (.tuple #[.int .u32 0, .bool false]) ∧ Below W.heap.size W w' from HFP.out)
      go_wp2_with (first
       | (go_at_call 213; refine (HEN.out _ HI3.out.bel).mono ?_; rintro e w4 ⟨rfl, hb4⟩; have HI4 := h_ (HI3.out.below (Nat.le_refl _) hb4); clear hb4)
       | (go_at_call 214; refine (HFP.out _ HI4.out.bel).mono ?_; rintro e w5 ⟨rfl, hb5⟩; have HI5 := h_ (HI4.out.below (Nat.le_refl _) hb5); clear hb5)
       | (refine build_to rfl 27 #[] rfl (.agg (hCells H0)) #[] rfl bldH0 ?_)
       | (refine put_host rfl (.tmp 2) (.tmp 59) rfl w w.heap.size _ H0 HI5.out (Nat.le_refl _) rfl rfl rfl ?_; intro w6 i6; have HI6 := h_ i6; clear i6)
       | fail)
      exact nres rfl rfl HI6.out (by rw [HR.out]; rfl) (by rw [HR.out]; rfl)
     | some v =>
      rw [hfq] at hr HFP
      have hb3 := bldH3 v
      obtain ⟨G3, hG3⟩ : ∃ G : Hst, G = { H0 with kind := 3, four := v } := ⟨_, rfl⟩
      have hG38 : G3.six.length = 8 := by rw [hG3]; rfl
      replace hr : R = some G3 := by rw [hr, hG3]
      rw [<- hG3] at hb3
      clear hG3
      have HB3 := h_ hb3; clear hb3
      have HG38 := h_ hG38; clear hG38
      have HR := h_ hr; clear hr hef hall hfq
      replace HFP := h_ (show ∀ W, Below w.heap.size w W -> Calls Tryz.prog 214 #[.string u] W fun e w' => e = .returned (.tuple #[.int .u32 v, .bool true]) ∧ Below W.heap.size W w' from HFP.out)
      go_wp2_with (first
       | (go_at_call 213; refine (HEN.out _ HI3.out.bel).mono ?_; rintro e w4 ⟨rfl, hb4⟩; have HI4 := h_ (HI3.out.below (Nat.le_refl _) hb4); clear hb4)
       | (go_at_call 214; refine (HFP.out _ HI4.out.bel).mono ?_; rintro e w5 ⟨rfl, hb5⟩; have HI5 := h_ (HI4.out.below (Nat.le_refl _) hb5); clear hb5)
       | (refine build2 rfl 0 2 (.const (.int .i64 3)) (.tmp 60) rfl (.int .i64 3) (.int .u32 v) (.agg (hCells G3)) rfl rfl HB3.out ?_)
       | (refine put_host rfl (.tmp 2) (.tmp 61) rfl w w.heap.size _ G3 HI5.out (Nat.le_refl _) HG38.out rfl rfl ?_; intro w6 i6; have HI6 := h_ i6; clear i6)
       | fail)
      exact nres rfl rfl HI6.out (by rw [HR.out]; rfl) (by rw [HR.out]; rfl)

theorem pres {tmps : Array Value} {w w2 : World} {b : Nat} {h : Hst} {q : Bool} (h2 : tmps.getD 4 undef = .pointer (some ⟨b, 0, none⟩)) (h3 : tmps.getD 5 undef = .bool q) (i : InB w b h w2) {R : Option Hst} (hR : h = R.getD H0) (hq : q = R.isSome) :
  bodyPost Tryz.prog Tryz.f181 (fun e w' => e = hostE R ∧ Below w.heap.size w w') Exit.ret { tmps := tmps, defers := [] } w2 := by
 have h2' : tmps[4]?.getD undef = .pointer (some ⟨b, 0, none⟩) := by simpa using h2
 have h3' : tmps[5]?.getD undef = .bool q := by simpa using h3
 have hl := load_host w2 b h i.a i.l
 refine bodyPost_ret (v := .tuple #[.agg (hCells h), .bool q]) ?_ rfl ⟨by rw [hR, hq], i.bel⟩
 simp [results, Tryz.results181, asAddr, h2', h3', hl]
theorem brF_six {s : Bytes} : ((brF s).getD H0).six.length = 8 := by
 unfold brF
 split
 ·cases h : sixPF (Lib.trimSuffix s [93]) with
  | none => rfl
  | some a => exact (sixP_range h).1
 ·rfl
theorem nmF_six {s : Bytes} : ((nmF s).getD H0).six.length = 8 := by
 unfold nmF
 split
 ·rfl
 ·split
  ·rfl
  ·split
   ·rfl
   ·split
    ·split <;> rfl
    ·rfl
theorem hp91 (l : Bytes) : Lib.hasPrefix l [91] = decide (l.head? = some 91) := by
 cases l with
 | nil => rfl
 | cons x r =>
  show ((91 == x) && true) = _
  rw [Bool.and_true, Bool.eq_iff_iff]
  simp only [beq_iff_eq, List.head?_cons, Option.some.injEq, decide_eq_true_eq]
  exact eq_comm
structure Short (l : Bytes) : Prop where
 sl : l.length <= 307200000
 st : (toldF (signs (pdF l))).length <= 102400000
 sn : ∀ n, domF (pdF l) = some n -> n.length <= 102400000
theorem short_of {l : Bytes} (h : l.length <= 1048576) : Short l := by
 have h1 := pdF_len _ l (Nat.le_refl _)
 have h2 := told_len (signs (pdF l))
 have h3 := signs_len _ (pdF l) (Nat.le_refl _)
 exact ⟨by omega, by omega, fun n hn => by have := dom_len2 hn; omega⟩
theorem hparse_any (l : Bytes) (sp : Bool) (w : World) (hS : Short l) (hE : Env w) : Calls Tryz.prog 181 #[.string (bs l), .bool sp] w fun e w' => e = hostE (hostP l sp) ∧ Below w.heap.size w w' := by
 obtain ⟨hl, hst, hsn⟩ := hS
 have hhp := fun W => hp_any l [91] W
 rw [show bs [91] = ⟨#[91]⟩ from rfl, hp91] at hhp
 have hbr := fun W (h : Below w.heap.size w W) => bracketed_any (l.drop 1) W (by rw [List.length_drop]; omega) (hE.below h)
 have hnm := fun W (h : Below w.heap.size w W) => named_any l W hl hst hsn (hE.below h)
 have hpe := fun W => pencode_any 0 l W (by omega)
 obtain ⟨R, hR⟩ := ex_ (hostP l sp)
 rw [<- hR]
 unfold hostP at hR
 have hyes : ∀ k (hk : k < l.length), badF (b2 l[k]) = true -> (l.any fun x => badF (b2 x)) = true := fun k hk h => any_yes (f := fun x => badF (b2 x)) hk h
 have hno : (∀ k (hk : k < l.length), badF (b2 l[k]) = false) -> (l.any fun x => badF (b2 x)) = false := fun h => any_at (f := fun x => badF (b2 x)) h
 obtain ⟨s, hs⟩ := ex_ (bs l)
 have hsz : s.size = l.length := by rw [hs, bs_size]
 have hby : ∀ k (hk : k < s.size) (hk2 : k < l.length), ((s[k]'hk).toNat : Int) = b2 l[k] := fun k hk hk2 => str_at hs hk hk2
 have hue : (s.toList = []) ↔ l = [] := by rw [hs, toList_bs]
 have hex : s.extract 1 s.size = bs (l.drop 1) := by rw [hs, bs_extract, bs_size, List.take_of_length_le (by rw [List.length_drop]; omega)]
 rw [<- hs] at hhp hnm hpe ⊢
 clear hs hst hsn hE
 obtain ⟨N, hN⟩ := ex_ (s.size)
 have hsN : s.size = N := hN.symm
 rw [hsN] at hex
 have hNm : N <= 307200000 := by omega
 have hNl : N = l.length := by omega
 clear hN hsz hl
 have HI := h_ (inB_fresh w)
 by_cases h91 : l.head? = some 91
 ·rw [if_pos h91] at hR
  rw [decide_eq_true h91] at hhp
  have hN1 : 1 <= N := by
   cases l with
   | nil => cases h91
   | cons x r => rw [hNl]; simp
  obtain ⟨u, hu⟩ := ex_ (bs (l.drop 1))
  rw [<- hu] at hex hbr
  have HG8 := h_ (brF_six (s := l.drop 1))
  obtain ⟨B, hB⟩ := ex_ (brF (l.drop 1))
  rw [<- hB] at hR hbr HG8
  clear hB hu h91 hnm hpe hyes hno hby hue hNl
  obtain ⟨G, hG⟩ := ex_ (B.getD H0)
  obtain ⟨q, hq⟩ := ex_ (B.isSome)
  have HBR := h_ (show ∀ W, Below w.heap.size w W -> Calls Tryz.prog 203 #[.string u] W fun e w' => e = .returned (.tuple #[.agg (hCells G), .bool q]) ∧ Below W.heap.size W w' from by rw [hG, hq]; exact hbr)
  rw [<- hG] at HG8
  have HR := h_ (show G = R.getD H0 ∧ q = R.isSome by rw [hR]; exact ⟨hG, hq⟩)
  have HHP := h_ hhp
  clear hhp hbr hR hG hq
  go_enter Tryz.func181, Tryz.ntmps181
  go_wp2_with (first
   | (refine alloc_to rfl 27 rfl _ _ (allH _) ?_)
   | (go_at_call 84; refine (HHP.out _).mono ?_; rintro e w2 ⟨rfl, hw2⟩; subst hw2)
   | (go_at_call 203; refine (HBR.out _ HI.out.bel).mono ?_; rintro e w2 ⟨rfl, hb2⟩; have HI2 := h_ (HI.out.below (Nat.le_refl _) hb2); clear hb2)
   | (refine put_host rfl (.tmp 4) (.tmp 12) rfl w w.heap.size _ G HI2.out (Nat.le_refl _) HG8.out rfl rfl ?_; intro w4 i4; have HI4 := h_ i4; clear i4)
   | fail)
  exact pres rfl rfl HI4.out HR.out.1 HR.out.2
 rw [if_neg h91] at hR
 rw [decide_eq_false h91] at hhp
 have HHP := h_ hhp
 clear hhp hbr hex h91
 cases sp with
 | true =>
  rw [if_pos rfl] at hR
  have HG8 := h_ (nmF_six (s := l))
  obtain ⟨B, hB⟩ := ex_ (nmF l)
  rw [<- hB] at hR hnm HG8
  clear hB hpe hyes hno hby hue hNl
  obtain ⟨G, hG⟩ := ex_ (B.getD H0)
  obtain ⟨q, hq⟩ := ex_ (B.isSome)
  have HNM := h_ (show ∀ W, Below w.heap.size w W -> Calls Tryz.prog 204 #[.string s] W fun e w' => e = .returned (.tuple #[.agg (hCells G), .bool q]) ∧ Below W.heap.size W w' from by rw [hG, hq]; exact hnm)
  rw [<- hG] at HG8
  have HR := h_ (show G = R.getD H0 ∧ q = R.isSome by rw [hR]; exact ⟨hG, hq⟩)
  clear hnm hR hG hq
  go_enter Tryz.func181, Tryz.ntmps181
  go_wp2_with (first
   | (refine alloc_to rfl 27 rfl _ _ (allH _) ?_)
   | (go_at_call 84; refine (HHP.out _).mono ?_; rintro e w2 ⟨rfl, hw2⟩; subst hw2)
   | (go_at_call 204; refine (HNM.out _ HI.out.bel).mono ?_; rintro e w2 ⟨rfl, hb2⟩; have HI2 := h_ (HI.out.below (Nat.le_refl _) hb2); clear hb2)
   | (refine put_host rfl (.tmp 4) (.tmp 17) rfl w w.heap.size _ G HI2.out (Nat.le_refl _) HG8.out rfl rfl ?_; intro w4 i4; have HI4 := h_ i4; clear i4)
   | fail)
  exact pres rfl rfl HI4.out HR.out.1 HR.out.2
 | false =>
  rw [if_neg (by simp)] at hR
  clear hnm
  by_cases hnil : l = []
  ·rw [if_pos hnil] at hR
   have he2 := hue.mpr hnil
   have he : s.toList.isEmpty = true := by rw [he2]; rfl
   have HR := h_ hR; clear hR hpe hyes hno hby hue hnil hNl
   go_enter Tryz.func181, Tryz.ntmps181
   go_wp2_with (first
    | (refine alloc_to rfl 27 rfl _ _ (allH _) ?_)
    | (go_at_call 84; refine (HHP.out _).mono ?_; rintro e w2 ⟨rfl, hw2⟩; subst hw2)
    | (refine build1 rfl 0 (.const (.int .i64 1)) rfl (.int .i64 1) (.agg (hCells { H0 with kind := 1 })) rfl bldH1 ?_)
    | (refine put_host rfl (.tmp 4) (.tmp 21) rfl w w.heap.size _ { H0 with kind := 1 } HI.out (Nat.le_refl _) rfl rfl rfl ?_; intro w4 i4; have HI4 := h_ i4; clear i4)
    | fail)
   exact pres rfl rfl HI4.out (by rw [HR.out]; rfl) (by rw [HR.out]; rfl)
  rw [if_neg hnil] at hR
  have he2 : ¬ s.toList = [] := fun h => hnil (hue.mp h)
  have he : s.toList.isEmpty = false := by simpa using he2
  have hb5 := bldH5 (pcB 0 l)
  obtain ⟨G5, hG5⟩ : ∃ G : Hst, G = { H0 with kind := 5, name := pcB 0 l } := ⟨_, rfl⟩
  have hG58 : G5.six.length = 8 := by rw [hG5]; rfl
  rw [<- hG5] at hb5 hR
  obtain ⟨c, hc⟩ := ex_ (bs (pcB 0 l))
  have HPE := h_ (show ∀ W, Calls Tryz.prog 20 #[.string s, .int .i64 0] W fun e w' => e = .returned (.string c) ∧ Below W.heap.size W w' from by rw [hc]; exact hpe)
  rw [<- hc] at hb5
  clear hG5 hpe hc hue hnil
  have HSZ := h_ hNl; clear hNl
  have HBY := h_ hby; clear hby
  have HYES := h_ hyes; clear hyes
  have HNO := h_ hno; clear hno
  have HR := h_ hR; clear hR
  have HB5 := h_ hb5; clear hb5
  have HG58 := h_ hG58; clear hG58
  go_enter Tryz.func181, Tryz.ntmps181
  go_wp2_with (first
   | (refine alloc_to rfl 27 rfl _ _ (allH _) ?_)
   | (go_at_call 84; refine (HHP.out _).mono ?_; rintro e w2 ⟨rfl, hw2⟩; subst hw2)
   | fail)
  go_loopw [24] (fun iv wr => ∃ k : Nat, k <= N ∧ iv = .int .i64 k ∧ Hid (∀ j (hj : j < l.length), j < k -> badF (b2 l[j]) = false) ∧ wr = w.alloc (.cells (hCells H0) 27)) (fun i _ => N - (intOf i).toNat)
  case atStart => exact ⟨0, Nat.zero_le _, by simp, fun j _ h => absurd h (Nat.not_lt_zero j), rfl⟩
  case round =>
   obtain ⟨k, hk, rfl, hall, rfl⟩ := hrel
   by_cases hlt : k < N
   ·have hku : k < s.size := by rw [hsN]; exact hlt
    have hkl : k < l.length := by have := HSZ.out; omega
    have hx := HBY.out k hku hkl
    have hy : badF (b2 l[k]) = true -> R = none := fun h => by rw [HR.out, if_pos (HYES.out k hkl h)]
    have hsn : badF (b2 l[k]) = false -> ∀ j (hj : j < l.length), j < k + 1 -> badF (b2 l[j]) = false := fun h j hj h1 => by
     rcases Nat.lt_or_ge j k with h2 | h2
     ·exact hall.out j hj h2
     ·obtain rfl : j = k := by omega
      exact h
    have hbd := fun W => bad_any (b2 l[k]) W
    generalize b2 l[k] = X at hx hy hsn hbd
    have HBD := h_ hbd; clear hbd hall
    cases hq : badF X with
    | true =>
     have HF := h_ (hy hq)
     rw [hq] at HBD
     clear hy hsn hq
     go_wp2_with (first
      | (go_at_call 205; refine (HBD.out _).mono ?_; rintro e w4 ⟨rfl, hw4⟩; subst hw4)
      | (refine build_to rfl 27 #[] rfl (.agg (hCells H0)) #[] rfl bldH0 ?_)
      | (refine put_host rfl (.tmp 4) (.tmp 31) rfl w w.heap.size _ H0 HI.out (Nat.le_refl _) rfl rfl rfl ?_; intro w5 i5; have HI5 := h_ i5; clear i5)
      | fail)
     exact pres rfl rfl HI5.out (by rw [HF.out]; rfl) (by rw [HF.out]; rfl)
    | false =>
     have HS := h_ (hsn hq)
     rw [hq] at HBD
     clear hy hsn hq
     go_wp2_with (first
      | (go_at_call 205; refine (HBD.out _).mono ?_; rintro e w4 ⟨rfl, hw4⟩; subst hw4)
      | fail)
     go_roundw
     case rel => exact ⟨k + 1, by omega, by simp, HS.out, by first | rfl | trivial⟩
     case measure => simp [intOf]; omega
   ·obtain rfl : k = N := by omega
    have hr := HR.out
    rw [if_neg (by rw [HNO.out (fun j hj => hall.out j hj (by have := HSZ.out; omega))]; simp)] at hr
    have HR := h_ hr; clear hr hall
    go_wp2_with (first
     | (go_at_call 20; refine (HPE.out _).mono ?_; rintro e w4 ⟨rfl, hb4⟩; have HI4 := h_ (HI.out.below (Nat.le_refl _) hb4); clear hb4)
     | (refine build2 rfl 0 1 (.const (.int .i64 5)) (.tmp 34) rfl (.int .i64 5) (.string c) (.agg (hCells G5)) rfl rfl HB5.out ?_)
     | (refine put_host rfl (.tmp 4) (.tmp 35) rfl w w.heap.size _ G5 HI4.out (Nat.le_refl _) HG58.out rfl rfl ?_; intro w5 i5; have HI5 := h_ i5; clear i5)
     | fail)
    exact pres rfl rfl HI5.out (by rw [HR.out]; rfl) (by rw [HR.out]; rfl)

theorem Z8_ok : ∀ n ∈ Z8, 0 <= n ∧ n < 65536 := by decide
theorem hkind_ok {s : Bytes} {sp : Bool} {h : Hst} (e : HKind s sp h) : HstOk h := by
 cases e with
 | six a h8 ha hs => exact ⟨by simp, by simp [H0], h8, ha⟩
 | name n e hs hd hn hb he => exact ⟨by simp, by simp [H0], rfl, Z8_ok⟩
 | four n e hs h => exact ⟨by simp, ⟨by simp, by simp only; omega⟩, rfl, Z8_ok⟩
 | empty e h => exact ⟨by simp, by simp [H0], rfl, Z8_ok⟩
 | opaq e hs h hb => exact ⟨by simp, by simp [H0], rfl, Z8_ok⟩
theorem H0_ok : HstOk H0 := ⟨by simp [H0], by simp [H0], rfl, Z8_ok⟩
theorem pc_len0 (s : Bytes) : (pcB 0 s).length <= 3 * s.length := pcB_len 0 s

structure Ath where
 user : Bytes
 pass : Bytes
 host : Hst
 hasPort : Bool
 port : Int
def A0 : Ath := ⟨[], [], H0, false, 0⟩
def spF (s : Bytes) : Bool := s == [102, 116, 112] || s == [102, 105, 108, 101] || s == [104, 116, 116, 112] || s == [104, 116, 116, 112, 115] || s == [119, 115] || s == [119, 115, 115]
def ownF (s : Bytes) : Option Int :=
 if s = [102, 116, 112] then some 21 else if s = [104, 116, 116, 112] ∨ s = [119, 115] then some 80 else if s = [104, 116, 116, 112, 115] ∨ s = [119, 115, 115] then some 443 else none
def whGo : Int -> Bytes -> Option Int
 | n, [] => some n
 | n, c :: t => if dgt (b2 c) 10 < 0 then none else whGo (if (9223372036854775807 - dgt (b2 c) 10) / 10 < n then 9223372036854775807 else n * 10 + dgt (b2 c) 10) t
def wholeF (s : Bytes) : Option Int := if s = [] then none else whGo 0 s
def apF (sch s : Bytes) : Option (Int × Bool) :=
 if s = [] then some (0, false) else match wholeF s with
  | none => none
  | some n => if 65535 < n then none else if ownF sch = some n then some (0, false) else some (n, true)
def atF : Bytes -> Option (Bytes × Bytes)
 | [] => none
 | c :: t => match atF t with | some (a, b) => some (c :: a, b) | none => if c = 64 then some ([], t) else none
def cutF : Bytes -> Bytes × Bytes
 | [] => ([], [])
 | c :: t => if c = 58 then ([], t) else (c :: (cutF t).1, (cutF t).2)
def colF : Bool -> Bytes -> Option (Bytes × Bytes)
 | _, [] => none
 | i, c :: t => if c = 58 ∧ i = false then some ([], t) else (colF (if c = 91 then true else if c = 93 then false else i) t).map fun p => (c :: p.1, p.2)
def finF (sch n q u p : Bytes) : Option Ath := match hostP n (spF sch) with
 | none => none
 | some h => match apF sch q with | none => none | some (k, b) => some ⟨u, p, h, b, k⟩
def restF (sch s u p : Bytes) : Option Ath := match colF false s with
 | some (n, q) => if n = [] then none else finF sch n q u p
 | none => finF sch s [] u p
def authF (sch s : Bytes) : Option Ath := match atF s with
 | none => restF sch s [] []
 | some (who, rest) => if rest = [] then none else restF sch rest (pcB 5 (cutF who).1) (pcB 5 (cutF who).2)
theorem at_none : ∀ {s : Bytes}, (64 : UInt8) ∉ s -> atF s = none
 | [], _ => rfl
 | c :: t, h => by
  rw [atF, at_none (s := t) (fun h2 => h (by simp [h2]))]
  dsimp only
  rw [if_neg (fun e => h (by simp [e]))]
theorem at_split (a : Bytes) {b : Bytes} (h : (64 : UInt8) ∉ b) : atF (a ++ 64 :: b) = some (a, b) := by
 induction a with
 | nil => rw [List.nil_append, atF, at_none h]; rfl
 | cons x r ih => rw [List.cons_append, atF, ih]
theorem at_is : ∀ {s a b : Bytes}, atF s = some (a, b) -> s = a ++ 64 :: b ∧ (64 : UInt8) ∉ b
 | [], _, _, h => by cases h
 | c :: t, a, b, h => by
  rw [atF] at h
  cases ht : atF t with
  | some p =>
   obtain ⟨a', b'⟩ := p
   rw [ht] at h
   injection h with h
   injection h with h1 h2
   subst h1; subst h2
   obtain ⟨e, hn⟩ := at_is ht
   exact ⟨by rw [e]; rfl, hn⟩
  | none =>
   rw [ht] at h
   dsimp only at h
   split at h
   ·next hc =>
    injection h with h
    injection h with h1 h2
    subst h1; subst h2; subst hc
    refine ⟨rfl, fun hm => ?_⟩
    have key : ∀ t : Bytes, (64 : UInt8) ∈ t -> atF t ≠ none := by
     intro t
     induction t with
     | nil => intro h; cases h
     | cons x r ih =>
      intro hx e
      rw [atF] at e
      cases hr : atF r with
      | some p => rw [hr] at e; cases e
      | none =>
       rw [hr] at e
       dsimp only at e
       rcases List.mem_cons.mp hx with hx | hx
       ·rw [if_pos hx.symm] at e; cases e
       ·exact ih hx hr
    exact key _ hm ht
   ·cases h

theorem whGo_ge : ∀ (l : Bytes) (n v : Int), 0 <= n -> whGo n l = some v -> 0 <= v
 | [], n, v, h, e => by rw [whGo] at e; injection e with e; omega
 | c :: t, n, v, h, e => by
  rw [whGo] at e
  split at e
  ·cases e
  ·next hd =>
   refine whGo_ge t _ v ?_ e
   split <;> omega
theorem ap_ok {sch q : Bytes} {k : Int} {b : Bool} (h : apF sch q = some (k, b)) : (b = false ∧ k = 0) ∨ (b = true ∧ 0 <= k ∧ k <= 65535 ∧ ownF sch ≠ some k ∧ q ≠ []) := by
 unfold apF at h
 split at h
 ·injection h with h; injection h with h1 h2; exact .inl ⟨h2.symm, h1.symm⟩
 ·next hq =>
  cases hw : wholeF q with
  | none => rw [hw] at h; cases h
  | some n =>
   rw [hw] at h
   dsimp only at h
   split at h
   ·cases h
   ·next hn =>
    split at h
    ·injection h with h; injection h with h1 h2; exact .inl ⟨h2.symm, h1.symm⟩
    ·next ho =>
     injection h with h; injection h with h1 h2
     subst h1
     unfold wholeF at hw
     rw [if_neg hq] at hw
     have := whGo_ge q 0 n (by omega) hw
     exact .inr ⟨h2.symm, this, by omega, ho, hq⟩
structure AOk (sch : Bytes) (a : Ath) : Prop where
 h : ∃ n, hostP n (spF sch) = some a.host ∧ (n = [] -> a.user = [] ∧ a.pass = [] ∧ a.hasPort = false)
 u : ∃ x, a.user = pcB 5 x
 p : ∃ x, a.pass = pcB 5 x
 q : (a.hasPort = false ∧ a.port = 0) ∨ (a.hasPort = true ∧ 0 <= a.port ∧ a.port <= 65535 ∧ ownF sch ≠ some a.port)
theorem fin_ok {sch n q u p : Bytes} {a : Ath} (h : finF sch n q u p = some a) (hu : ∃ x, u = pcB 5 x) (hp : ∃ x, p = pcB 5 x) (hn : n = [] -> u = [] ∧ p = [] ∧ q = []) : AOk sch a := by
 unfold finF at h
 cases hh : hostP n (spF sch) with
 | none => rw [hh] at h; cases h
 | some g =>
  rw [hh] at h
  dsimp only at h
  cases hq : apF sch q with
  | none => rw [hq] at h; cases h
  | some v =>
   obtain ⟨k, b⟩ := v
   rw [hq] at h
   injection h with h
   subst h
   have hk := ap_ok hq
   refine ⟨⟨n, hh, fun e => ?_⟩, hu, hp, ?_⟩
   ·obtain ⟨h1, h2, h3⟩ := hn e
    refine ⟨h1, h2, ?_⟩
    rcases hk with hk | hk
    ·exact hk.1
    ·exact absurd h3 hk.2.2.2.2
   ·rcases hk with hk | hk
    ·exact .inl hk
    ·exact .inr ⟨hk.1, hk.2.1, hk.2.2.1, hk.2.2.2.1⟩
theorem rest_ok {sch s u p : Bytes} {a : Ath} (h : restF sch s u p = some a) (hu : ∃ x, u = pcB 5 x) (hp : ∃ x, p = pcB 5 x) (hs : s = [] -> u = [] ∧ p = []) : AOk sch a := by
 unfold restF at h
 cases hc : colF false s with
 | none =>
  rw [hc] at h
  exact fin_ok h hu hp (fun e => ⟨(hs e).1, (hs e).2, rfl⟩)
 | some v =>
  obtain ⟨n, q⟩ := v
  rw [hc] at h
  dsimp only at h
  split at h
  ·cases h
  ·next hn => exact fin_ok h hu hp (fun e => absurd e hn)
theorem auth_ok {sch s : Bytes} {a : Ath} (h : authF sch s = some a) : AOk sch a := by
 unfold authF at h
 cases ha : atF s with
 | none =>
  rw [ha] at h
  exact rest_ok h ⟨[], rfl⟩ ⟨[], rfl⟩ (fun _ => ⟨rfl, rfl⟩)
 | some v =>
  obtain ⟨who, rest⟩ := v
  rw [ha] at h
  dsimp only at h
  split at h
  ·cases h
  ·next hr => exact rest_ok h ⟨_, rfl⟩ ⟨_, rfl⟩ (fun e => absurd e hr)

theorem sEq (s t : Bytes) : ((bs s).toList == (bs t).toList) = decide (s = t) := by rw [toList_bs, toList_bs, eq_dec]
theorem special_any (s : Bytes) (w : World) : Calls Tryz.prog 22 #[.string (bs s)] w fun e w' => e = .returned (.bool (spF s)) ∧ w' = w := by
 have e1 := sEq s [102, 116, 112]
 have e2 := sEq s [102, 105, 108, 101]
 have e3 := sEq s [104, 116, 116, 112]
 have e4 := sEq s [104, 116, 116, 112, 115]
 have e5 := sEq s [119, 115]
 have e6 := sEq s [119, 115, 115]
 have hR : spF s = (decide (s = [102, 116, 112]) || decide (s = [102, 105, 108, 101]) || decide (s = [104, 116, 116, 112]) || decide (s = [104, 116, 116, 112, 115]) || decide (s = [119, 115]) || decide (s = [119, 115, 115])) := by
  unfold spF
  rw [eq_dec, eq_dec, eq_dec, eq_dec, eq_dec, eq_dec]
 rw [hR]
 generalize decide (s = [102, 116, 112]) = b1 at e1 ⊢
 generalize decide (s = [102, 105, 108, 101]) = b2 at e2 ⊢
 generalize decide (s = [104, 116, 116, 112]) = b3 at e3 ⊢
 generalize decide (s = [104, 116, 116, 112, 115]) = b4 at e4 ⊢
 generalize decide (s = [119, 115]) = b5 at e5 ⊢
 generalize decide (s = [119, 115, 115]) = b6 at e6 ⊢
 clear hR
 generalize bs s = S at *
 rw [toList_bs] at e1 e2 e3 e4 e5 e6
 cases b1
 ·cases b2
  ·cases b3
   ·cases b4
    ·cases b5
     ·cases b6 <;>
      ·go_enter Tryz.func22, Tryz.ntmps22
       go_wp2_with fail
       go_ret
       exact ⟨rfl, rfl⟩
     ·go_enter Tryz.func22, Tryz.ntmps22
      go_wp2_with fail
      go_ret
      exact ⟨rfl, rfl⟩
    ·go_enter Tryz.func22, Tryz.ntmps22
     go_wp2_with fail
     go_ret
     exact ⟨rfl, rfl⟩
   ·go_enter Tryz.func22, Tryz.ntmps22
    go_wp2_with fail
    go_ret
    exact ⟨rfl, rfl⟩
  ·go_enter Tryz.func22, Tryz.ntmps22
   go_wp2_with fail
   go_ret
   exact ⟨rfl, rfl⟩
 ·go_enter Tryz.func22, Tryz.ntmps22
  go_wp2_with fail
  go_ret
  exact ⟨rfl, rfl⟩
theorem rport_any (s : Bytes) (w : World) : Calls Tryz.prog 21 #[.string (bs s)] w fun e w' => e = .returned (.tuple #[.int .i64 ((ownF s).getD 0), .bool (ownF s).isSome]) ∧ w' = w := by
 have e1 := sEq s [102, 116, 112]
 have e3 := sEq s [104, 116, 116, 112]
 have e4 := sEq s [104, 116, 116, 112, 115]
 have e5 := sEq s [119, 115]
 have e6 := sEq s [119, 115, 115]
 unfold ownF
 by_cases b1 : s = [102, 116, 112]
 ·rw [decide_eq_true b1] at e1
  rw [if_pos b1]
  clear b1
  generalize bs s = S at *
  rw [toList_bs] at e1 e3 e4 e5 e6
  go_enter Tryz.func21, Tryz.ntmps21
  go_wp2_with fail
  go_ret2
  exact ⟨rfl, rfl⟩
 rw [decide_eq_false b1] at e1
 rw [if_neg b1]
 clear b1
 by_cases b3 : s = [104, 116, 116, 112]
 ·rw [decide_eq_true b3] at e3
  rw [if_pos (.inl b3)]
  clear b3
  generalize bs s = S at *
  rw [toList_bs] at e1 e3 e4 e5 e6
  go_enter Tryz.func21, Tryz.ntmps21
  go_wp2_with fail
  go_ret2
  exact ⟨rfl, rfl⟩
 rw [decide_eq_false b3] at e3
 by_cases b5 : s = [119, 115]
 ·rw [decide_eq_true b5] at e5
  rw [if_pos (.inr b5)]
  clear b5 b3
  generalize bs s = S at *
  rw [toList_bs] at e1 e3 e4 e5 e6
  go_enter Tryz.func21, Tryz.ntmps21
  go_wp2_with fail
  go_ret2
  exact ⟨rfl, rfl⟩
 rw [decide_eq_false b5] at e5
 rw [if_neg (fun h => h.elim b3 b5)]
 clear b3 b5
 by_cases b4 : s = [104, 116, 116, 112, 115]
 ·rw [decide_eq_true b4] at e4
  rw [if_pos (.inl b4)]
  clear b4
  generalize bs s = S at *
  rw [toList_bs] at e1 e3 e4 e5 e6
  go_enter Tryz.func21, Tryz.ntmps21
  go_wp2_with fail
  go_ret2
  exact ⟨rfl, rfl⟩
 rw [decide_eq_false b4] at e4
 by_cases b6 : s = [119, 115, 115]
 ·rw [decide_eq_true b6] at e6
  rw [if_pos (.inr b6)]
  clear b4 b6
  generalize bs s = S at *
  rw [toList_bs] at e1 e3 e4 e5 e6
  go_enter Tryz.func21, Tryz.ntmps21
  go_wp2_with fail
  go_ret2
  exact ⟨rfl, rfl⟩
 rw [decide_eq_false b6] at e6
 rw [if_neg (fun h => h.elim b4 b6)]
 clear b4 b6
 generalize bs s = S at *
 rw [toList_bs] at e1 e3 e4 e5 e6
 go_enter Tryz.func21, Tryz.ntmps21
 go_wp2_with fail
 go_ret2
 exact ⟨rfl, rfl⟩
theorem wh_step (n : Int) {l : Bytes} {k : Nat} (h : k < l.length) : whGo n (l.drop k) = if dgt (b2 l[k]) 10 < 0 then none else whGo (if (9223372036854775807 - dgt (b2 l[k]) 10) / 10 < n then 9223372036854775807 else n * 10 + dgt (b2 l[k]) 10) (l.drop (k + 1)) := by
 rw [List.drop_eq_getElem_cons h]; rfl
theorem dgt10 (c : Int) : -1 <= dgt c 10 ∧ dgt c 10 < 10 := by
 unfold dgt
 simp only
 split <;> (try split) <;> (try split) <;> (try split) <;> omega
theorem whole_any (l : Bytes) (w : World) (hl : l.length <= 1024000000) :
  Calls Tryz.prog 135 #[.string (bs l)] w fun e w' => e = .returned (.tuple #[.int .i64 ((wholeF l).getD 0), .bool (wholeF l).isSome]) ∧ w' = w := by
 obtain ⟨R, hR⟩ := ex_ (whGo 0 l)
 unfold wholeF
 rw [<- hR]
 have HR := h_ hR; clear hR
 obtain ⟨s, hs⟩ := ex_ (bs l)
 have hsz : s.size = l.length := by rw [hs, bs_size]
 have hby : ∀ k (hk : k < s.size) (hk2 : k < l.length), ((s[k]'hk).toNat : Int) = b2 l[k] := fun k hk hk2 => str_at hs hk hk2
 have hemp : (s.toList = []) ↔ l = [] := by rw [hs, toList_bs]
 rw [<- hs]
 clear hs
 obtain ⟨N, hN⟩ := ex_ (s.size)
 have hsN : s.size = N := hN.symm
 have hNm : N <= 1024000000 := by omega
 have HBY := h_ hby; clear hby
 have HSZ := h_ hsz; clear hsz hl hN
 by_cases hnil : l = []
 ·rw [if_pos hnil]
  have he := hemp.mpr hnil
  have he1 : s.toList.isEmpty = true := by simpa using he
  clear hemp
  go_enter Tryz.func135, Tryz.ntmps135
  go_wp2_with fail
  go_ret2
  exact ⟨rfl, rfl⟩
 ·rw [if_neg hnil]
  have he : ¬ s.toList = [] := fun h => hnil (hemp.mp h)
  have he1 : s.toList.isEmpty = false := by simpa using he
  clear hemp
  have HNIL := h_ hnil; clear hnil
  go_enter Tryz.func135, Tryz.ntmps135
  go_wp2_with fail
  go_loopw [4, 11] (fun nv iv wr => ∃ (k : Nat) (n : Int), k <= N ∧ iv = .int .i64 k ∧ nv = .int .i64 n ∧ Hid (whGo n (l.drop k) = R) ∧ 0 <= n ∧ n <= 9223372036854775807 ∧ w = wr) (fun _ i _ => N - (intOf i).toNat)
  case atStart => exact ⟨0, 0, by omega, by simp, by simp, HR.out.symm, by omega, by omega, rfl⟩
  case round =>
   obtain ⟨k, n, hk, rfl, rfl, hd, hn0, hn1, rfl⟩ := hrel
   by_cases hlt : k < N
   ·have hku : k < s.size := by omega
    have hkl : k < l.length := by have := HSZ.out; omega
    have hx := HBY.out k hku hkl
    have hst := wh_step n hkl
    rw [hd.out] at hst
    have hr := b2_lt l[k]
    have hda := fun W => digitA_any (b2 l[k]) 10 W hr (by omega)
    have hlo := dgt10 (b2 l[k])
    obtain ⟨D, hD⟩ := ex_ (dgt (b2 l[k]) 10)
    rw [<- hD] at hst hda hlo
    clear hD
    generalize b2 l[k] = X at hx hr hda
    have HDA := h_ hda; clear hda hd
    by_cases hD0 : D < 0
    ·rw [if_pos hD0] at hst
     have HST := h_ hst; clear hst
     go_wp2_with (first | (go_at_call 92; refine (HDA.out _).mono ?_; rintro e w2 ⟨rfl, rfl⟩) | fail)
     go_ret2
     exact ⟨by rw [HST.out]; rfl, rfl⟩
    ·rw [if_neg hD0] at hst
     have hw1 : IntKind.i64.wrap (9223372036854775807 - D) = 9223372036854775807 - D := IntWalk.i64_in _ (by omega)
     obtain ⟨M, hM⟩ := ex_ (9223372036854775807 - D)
     rw [<- hM] at hw1 hst
     have hM0 : 0 <= M := by omega
     have hdv : Int.tdiv M 10 = M / 10 := Int.tdiv_eq_ediv_of_nonneg hM0
     have hq1 : 0 <= M / 10 ∧ M / 10 <= 922337203685477580 := by omega
     have hw2 : IntKind.i64.wrap (M / 10) = M / 10 := IntWalk.i64_in _ (by omega)
     by_cases hmn : M / 10 < n
     ·rw [if_pos hmn] at hst
      have HST := h_ hst; clear hst
      go_wp2_with (first | (go_at_call 92; refine (HDA.out _).mono ?_; rintro e w2 ⟨rfl, rfl⟩) | fail)
      go_roundw
      case rel => exact ⟨k + 1, 9223372036854775807, by omega, by simp, by simp, HST.out.symm, by omega, by omega, by trivial⟩
      case measure => simp [intOf]; omega
     ·rw [if_neg hmn] at hst
      have HST := h_ hst; clear hst
      obtain ⟨Z, hZ⟩ := ex_ (n * 10)
      have hw3 : IntKind.i64.wrap (n * 10) = n * 10 := IntWalk.i64_in _ (by omega)
      have hw4 : IntKind.i64.wrap (n * 10 + D) = n * 10 + D := IntWalk.i64_in _ (by omega)
      clear hZ
      go_wp2_with (first | (go_at_call 92; refine (HDA.out _).mono ?_; rintro e w2 ⟨rfl, rfl⟩) | fail)
      go_roundw
      case rel => exact ⟨k + 1, n * 10 + D, by omega, by simp, by simp, HST.out.symm, by omega, by omega, by trivial⟩
      case measure => simp [intOf]; omega
   ·obtain rfl : k = N := by omega
    have hdr : l.drop k = [] := List.drop_eq_nil_of_le (by have := HSZ.out; omega)
    have hd1 := hd.out
    rw [hdr] at hd1
    have HST := h_ (show some n = R from hd1); clear hd1 hd
    go_wp2_with fail
    go_ret2
    exact ⟨by rw [<- HST.out]; rfl, rfl⟩

theorem texts_step {xs ys : List Bytes} {k : Nat} (h1 : k < xs.length) (h2 : k < ys.length) (ht : xs.take k = ys.take k) (he : xs[k] = ys[k]) : xs.take (k + 1) = ys.take (k + 1) := by
 rw [List.take_succ_eq_append_getElem h1, List.take_succ_eq_append_getElem h2, ht, he]
theorem rsame1_core (xs ys : List Bytes) (c1 c2 : Nat) (w : World) (hl : xs.length = ys.length) (hm : xs.length <= maxLen) (b1 o1 b2 o2 : Nat)
  (h1 : At w b1 o1 (xs.map S)) (h2 : At w b2 o2 (ys.map S)) :
  Calls Tryz.prog 25 #[.slice (some ⟨b1, o1, none⟩) xs.length c1, .slice (some ⟨b2, o2, none⟩) ys.length c2] w fun e w' => e = .returned (.bool (decide (xs = ys))) ∧ Below w.heap.size w w' := by
 unfold maxLen at hm
 have HL := h_ hl
 obtain ⟨n, hn⟩ := ex_ (xs.length)
 have hn2 : n = ys.length := by omega
 rw [<- hn, <- hn2]
 rw [<- hn] at hm
 have HN := h_ hn; clear hn
 have HN2 := h_ hn2; clear hn2 hl
 have hne : ((n : Int) != n) = false := by simp
 go_enter Tryz.func25, Tryz.ntmps25
 go_wp2
 go_loopw [5] (fun i wr => ∃ k d : Nat, k <= n ∧ i = .int .i64 k ∧ xs.take k = ys.take k ∧ wr = w.drewN d) (fun i _ => n - (intOf i).toNat)
 case atStart => exact ⟨0, 0, Nat.zero_le _, rfl, by simp, rfl⟩
 case round =>
  obtain ⟨k, d, hk, rfl, ht, rfl⟩ := hrel
  have HT := h_ ht; clear ht
  by_cases hlt : k < n
  ·have hx : k < xs.length := by have := HN.out; omega
   have hy : k < ys.length := by have := HN2.out; omega
   have hc1 : w.cell? ⟨b1, o1 + k, none⟩ = some (.string (bs xs[k])) := by rw [h1 k (by simpa using hx), List.getElem_map]
   have hc2 : w.cell? ⟨b2, o2 + k, none⟩ = some (.string (bs ys[k])) := by rw [h2 k (by simpa using hy), List.getElem_map]
   have heq := sEq xs[k] ys[k]
   have HE0 := h_ (show ∀ _ : xs[k] = ys[k], xs.take (k + 1) = ys.take (k + 1) from fun he => texts_step hx hy HT.out he)
   have HF0 := h_ (show ∀ _ : ¬ xs[k] = ys[k], decide (xs = ys) = false from fun he => decide_eq_false fun h => he (by subst h; rfl))
   obtain ⟨x, hxx⟩ := ex_ (bs xs[k])
   obtain ⟨y, hyy⟩ := ex_ (bs ys[k])
   rw [<- hxx] at hc1 heq
   rw [<- hyy] at hc2 heq
   clear hxx hyy
   by_cases he : xs[k] = ys[k]
   ·rw [decide_eq_true he] at heq
    have he' : (x.toList != y.toList) = false := by unfold bne; rw [heq]; rfl
    have HE := h_ (HE0.out he); clear he HE0 HF0
    go_wp2
    go_quiet (fail)
    go_wp2
    go_roundw
    case rel => exact ⟨k + 1, _, by omega, by go_num, HE.out, rfl⟩
    case measure => simp [intOf]; omega
   ·rw [decide_eq_false he] at heq
    have he' : (x.toList != y.toList) = true := by unfold bne; rw [heq]; rfl
    have HF := h_ (HF0.out he)
    clear he HE0 HF0
    go_wp2
    go_quiet (fail)
    go_wp2
    go_ret
    exact ⟨ret1_bool HF.out.symm, drewN_below (drewN_below (Below.refl _ _) _) _⟩
  ·go_wp2
   go_ret
   refine ⟨ret1_bool ?_, drewN_below (Below.refl _ _) _⟩
   have e1 := HN.out
   have e2 := HN2.out
   have h := HT.out
   rw [List.take_of_length_le (by omega), List.take_of_length_le (by omega)] at h
   simp [h]
theorem rsame1_differ (xs ys : List Bytes) (A1 A2 : Option Addr) (c1 c2 : Nat) (w : World) (hl : xs.length ≠ ys.length) :
  Calls Tryz.prog 25 #[.slice A1 xs.length c1, .slice A2 ys.length c2] w fun e w' => e = .returned (.bool (decide (xs = ys))) ∧ Below w.heap.size w w' := by
 have hfin : decide (xs = ys) = false := by
  rw [decide_eq_false_iff_not]
  intro h
  exact hl (by rw [h])
 have HF := h_ hfin; clear hfin
 obtain ⟨n, hn⟩ := ex_ (xs.length)
 obtain ⟨m, hm⟩ := ex_ (ys.length)
 rw [<- hn, <- hm] at hl
 rw [<- hn, <- hm]
 clear hn hm
 have hne : ((n : Int) != m) = true := by simp; omega
 clear hl
 go_enter Tryz.func25, Tryz.ntmps25
 go_wp2
 go_ret
 exact ⟨ret1_bool HF.out.symm, Below.refl _ _⟩
theorem rsame1_none (A1 A2 : Option Addr) (c1 c2 : Nat) (w : World) :
  Calls Tryz.prog 25 #[.slice A1 0 c1, .slice A2 0 c2] w fun e w' => e = .returned (.bool true) ∧ Below w.heap.size w w' := by
 go_enter Tryz.func25, Tryz.ntmps25
 go_wp2
 refine wp_loop_rounds 1 ?_
 rw [rounds_succ]
 go_wp2
 go_ret
 exact ⟨rfl, Below.refl _ _⟩
theorem rsame1_any (xs ys : List Bytes) (v1 v2 : Value) (w : World) (B1 B2 : Nat) (h1 : Sl B1 w v1 (xs.map S)) (h2 : Sl B2 w v2 (ys.map S)) :
  Calls Tryz.prog 25 #[v1, v2] w fun e w' => e = .returned (.bool (decide (xs = ys))) ∧ Below w.heap.size w w' := by
 obtain ⟨c1, hc1, hm1, h1⟩ := h1
 obtain ⟨c2, hc2, hm2, h2⟩ := h2
 have e1 : (xs.map S).length = xs.length := by simp
 have e2 : (ys.map S).length = ys.length := by simp
 rw [e1] at hc1 h1
 rw [e2] at hc2 h2
 have none_ : ∀ a1 a2 d1 d2, Calls Tryz.prog 25 #[.slice a1 0 d1, .slice a2 0 d2] w fun e w' => e = .returned (.bool (decide (([] : List Bytes) = []))) ∧ Below w.heap.size w w' :=
  fun a1 a2 d1 d2 => (rsame1_none a1 a2 d1 d2 w).mono fun e w' h => ⟨by rw [h.1]; simp, h.2⟩
 by_cases hl : xs.length = ys.length
 ·rcases h1 with ⟨hn, a1, rfl⟩ | ⟨b1, o1, _, rfl, ha1⟩
  ·obtain rfl : xs = [] := by simpa using hn
   obtain rfl : ys = [] := List.eq_nil_of_length_eq_zero (by simpa using hl.symm)
   rcases h2 with ⟨_, a2, rfl⟩ | ⟨b2, o2, _, rfl, ha2⟩
   ·exact none_ _ _ _ _
   ·exact none_ _ _ _ _
  ·rcases h2 with ⟨hn, a2, rfl⟩ | ⟨b2, o2, _, rfl, ha2⟩
   ·obtain rfl : ys = [] := by simpa using hn
    obtain rfl : xs = [] := List.eq_nil_of_length_eq_zero (by simpa using hl)
    exact none_ _ _ _ _
   ·exact rsame1_core xs ys c1 c2 w hl (by omega) b1 o1 b2 o2 ha1 ha2
 ·rcases h1 with ⟨hn, a1, rfl⟩ | ⟨b1, o1, _, rfl, ha1⟩
  ·obtain rfl : xs = [] := by simpa using hn
   rcases h2 with ⟨hn, a2, rfl⟩ | ⟨b2, o2, _, rfl, ha2⟩
   ·obtain rfl : ys = [] := by simpa using hn
    exact absurd rfl hl
   ·simp only [List.length_nil] at *
    exact rsame1_differ [] ys _ _ _ _ w hl
  ·rcases h2 with ⟨hn, a2, rfl⟩ | ⟨b2, o2, _, rfl, ha2⟩
   ·obtain rfl : ys = [] := by simpa using hn
    exact rsame1_differ xs [] _ _ _ _ w hl
   ·exact rsame1_differ xs ys _ _ _ _ w hl
end Go.Proofs.YtpckaimpjccjhaaGreatDoor
