/- HlwA HlwB HlwC HlwD: joined. -/
import Derived.Test.YtgfklkfbccknoaaGreatDoorGHstF
import Derived.Laws.StructEq
import Derived.ChangeKeysEq
/- Kit of the walks of layer 11's statements: hosts in blocks, compared. -/
namespace Go.Proofs.YtgfklkfbccknoaaGreatDoor
open Go.RowKit
set_option maxRecDepth 10000

section
variable {P : Program} {ops : Array Oper} {rest : List Oper} {o : Oper} {a : Act} {w : World} {Q : Exit → Act → World → Prop}
theorem val_w (hg : Region.wanted o (yielded ops a.tmps) = true) (v : Value) (hr : (execOp a.eval o).run P w = .ok (.value v) w) (h : wpList P ops Q rest (a.put o.dst v) w) : wpList P ops Q (o :: rest) a w := by
  unfold wpList
  rw [if_pos hg]
  refine .inl ?_
  unfold Oper.wp
  rw [hr]
  exact h
theorem build_w (hg : Region.wanted o (yielded ops a.tmps) = true) (t : TypeId) (parts : Array (Nat × Operand)) (ho : o.op = .build t parts) (v : Value) (xs : Array (Nat × Value)) (hx : parts.map (fun (i, x) => (i, a.eval x)) = xs) (hr : ∀ w, (Instr.build t xs).run P w = .ok v w) (h : wpList P ops Q rest (a.put o.dst v) w) : wpList P ops Q (o :: rest) a w := by
  refine val_w hg v ?_ h
  subst hx
  unfold execOp
  simp only [ho, Sem.run_bind, Sem.run_pure, Result.andThen_ok, hr]
end
/-- a host in a block of its own -/
structure HB (W : World) (b : Nat) (h : Hst) : Prop where
  a : W.heap[b]? = some (.cells (hCells h) 26 (0, 0))
  l : h.six.length = 8
theorem HB.lt {W : World} {b : Nat} {h : Hst} (i : HB W b h) : b < W.heap.size := (Array.getElem?_eq_some_iff.1 i.a).1
theorem HB.keep {W W' : World} {b : Nat} {h : Hst} (i : HB W b h) (hb : Below W.heap.size W W') : HB W' b h := ⟨(hb.block b i.lt).trans i.a, i.l⟩
theorem HB.new (W : World) (h : Hst) (l : h.six.length = 8) : HB (W.alloc (.cells (hCells h) 26)) W.heap.size h := ⟨heap_alloc_new W _, l⟩
theorem HB.cell {W : World} {b : Nat} {h : Hst} (i : HB W b h) (j : Nat) : W.cell? ⟨b, j, none⟩ = (hCells h)[j]? := by
  simp [World.cell?, i.a]
theorem HB.load {W : World} {b : Nat} {h : Hst} (i : HB W b h) : (loadVar 26 ⟨b, 0, none⟩).run Tryz.prog W = .ok (.agg (hCells h)) W := load_host W b h i.a i.l
theorem six_eq (a b c d e g i j : Int) (D : Nat) (w : World) : (Op.equalIn (D + 2) 24 (.agg #[.int .u16 a, .int .u16 b, .int .u16 c, .int .u16 d, .int .u16 e, .int .u16 g, .int .u16 i, .int .u16 j]) (.agg #[.int .u16 a, .int .u16 b, .int .u16 c, .int .u16 d, .int .u16 e, .int .u16 g, .int .u16 i, .int .u16 j])).run Tryz.prog w = .ok true w := by
  have hu := Tryz.underlying23
  obtain ⟨i8, hi8, hz⟩ : ∃ i, Tryz.prog.info? 23 = some i ∧ i.size = 1 := ⟨_, rfl, by kernel_rfl⟩
  have hc : Tryz.prog.cellsOf 23 = 1 := by kernel_rfl
  rw [run_equalIn_array w (D + 1) _ _ Tryz.underlying24 hi8, hc, show List.range 8 = [0, 1, 2, 3, 4, 5, 6, 7] from rfl]
  simp only [Op.eqItems]
  clear hc hz hi8
  go_simp
theorem hst_eq (h : Hst) (hl : h.six.length = 8) (w : World) : (binOp .eql 26 (.agg (hCells h)) (.agg (hCells h))).run Tryz.prog w = .ok (.bool true) w := by
  obtain ⟨k, n, f, six⟩ := h
  simp only at hl
  obtain ⟨a, b, c, d, e, g, i, j, rfl⟩ := eight hl
  have hS : Tryz.prog.underlying 26 = some (.struct (Tryz.prog.fieldsOf 26)) := by kernel_rfl
  have hp : Tryz.prog.stoodInHeld 26 = false := by kernel_rfl
  have hc : hCells ⟨k, n, f, [a, b, c, d, e, g, i, j]⟩ = #[.int .i64 k, .string (bs n), .int .u32 f, .int .u16 a, .int .u16 b, .int .u16 c, .int .u16 d, .int .u16 e, .int .u16 g, .int .u16 i, .int .u16 j] := rfl
  have h6 := fun W => six_eq a b c d e g i j 9997 W
  rw [hc, run_eql_struct, show (10000 : Nat) = 9999 + 1 from rfl, run_equalIn_agg w 9999 26 _ _ hS hp]
  simp only [Program.fieldsOf, Tryz.underlying26]
  clear hc
  go_simp
section
variable {ops : Array Oper} {rest : List Oper} {o : Oper} {a : Act} {w : World} {Q : Exit → Act → World → Prop}
/-- a store of a host into the block that has just been made -/
theorem storeH {W : World} (hg : o.guard = none) (x y : Operand) (ho : o.op = .store 26 x y) (h : Hst) (hl : h.six.length = 8)
    (hW : W = w.alloc (.cells (hCells H0) 26)) (hx : a.eval x = .pointer (some ⟨w.heap.size, 0, none⟩)) (hy : a.eval y = .agg (hCells h))
    (k : ∀ w', HB w' w.heap.size h → Below w.heap.size w w' → wpList Tryz.prog ops Q rest (a.put o.dst undef) w') : wpList Tryz.prog ops Q (o :: rest) a W := by
  subst hW
  have hz : (hCells h).size = 11 := by simp [hstCells, hl]
  exact store_new hg 26 x y ho (hCells h) (hCells H0) 26 hx hy (hsize h hl) (by rw [hz]; rfl) (honec h) (k _ (HB.new w h hl) ((Below.refl _ _).alloc (Nat.le_refl _) _))
/-- a load of a host -/
theorem loadH (hg : Region.wanted o (yielded ops a.tmps) = true) (x : Operand) (ho : o.op = .load 26 x) (b : Nat) (h : Hst) (i : HB w b h) (hx : a.eval x = .pointer (some ⟨b, 0, none⟩))
    (k : wpList Tryz.prog ops Q rest (a.put o.dst (.agg (hCells h))) w) : wpList Tryz.prog ops Q (o :: rest) a w := by
  refine val_w hg (.agg (hCells h)) ?_ k
  have e := i.load
  unfold execOp
  simp only [ho, hx, Instr.loadAt, Instr.sureAddr, Sem.run_bind, Sem.run_pure, Result.andThen_ok, e]
/-- two hosts, compared, that are the same -/
theorem eqH (hg : Region.wanted o (yielded ops a.tmps) = true) (x y : Operand) (ho : o.op = .binOp .eql 26 x y 26) (h : Hst) (hl : h.six.length = 8) (hx : a.eval x = .agg (hCells h)) (hy : a.eval y = .agg (hCells h))
    (k : wpList Tryz.prog ops Q rest (a.put o.dst (.bool true)) w) : wpList Tryz.prog ops Q (o :: rest) a w := by
  refine val_w hg (.bool true) ?_ k
  have e := hst_eq h hl w
  have g := run_eqGuard_agg (P := Tryz.prog) w .eql 26 x y (hCells h) (hCells h) (by kernel_rfl)
  unfold execOp
  simp only [ho, hx, hy, Sem.run_bind, Sem.run_pure, Result.andThen_ok, e, g]
theorem loadH_exec (x : Operand) (ho : o.op = .load 26 x) (b : Nat) (h : Hst) (hx : a.eval x = .pointer (some ⟨b, 0, none⟩)) (i : HB w b h) : (execOp a.eval o).run Tryz.prog w = .ok (.value (.agg (hCells h))) w := by
  have e := i.load
  unfold execOp
  simp only [ho, hx, Instr.loadAt, Instr.sureAddr, Sem.run_bind, Sem.run_pure, Result.andThen_ok, e]
theorem eqH_exec (x y : Operand) (ho : o.op = .binOp .eql 26 x y 26) (h : Hst) (hl : h.six.length = 8) (hx : a.eval x = .agg (hCells h)) (hy : a.eval y = .agg (hCells h)) : (execOp a.eval o).run Tryz.prog w = .ok (.value (.bool true)) w := by
  have e := hst_eq h hl w
  have g := run_eqGuard_agg (P := Tryz.prog) w .eql 26 x y (hCells h) (hCells h) (by kernel_rfl)
  unfold execOp
  simp only [ho, hx, hy, Sem.run_bind, Sem.run_pure, Result.andThen_ok, e, g]
theorem bldH_exec (parts : Array (Nat × Operand)) (ho : o.op = .build 26 parts) (xs : Array (Nat × Value)) (h : Hst) (hx : parts.map (fun (i, x) => (i, a.eval x)) = xs) (hr : ∀ w, (Instr.build 26 xs).run Tryz.prog w = .ok (.agg (hCells h)) w) : (execOp a.eval o).run Tryz.prog w = .ok (.value (.agg (hCells h))) w := by
  subst hx
  unfold execOp
  simp only [ho, Sem.run_bind, Sem.run_pure, Result.andThen_ok, hr]
theorem bldH (hg : Region.wanted o (yielded ops a.tmps) = true) (parts : Array (Nat × Operand)) (ho : o.op = .build 26 parts) (xs : Array (Nat × Value)) (h : Hst) (hx : parts.map (fun (i, x) => (i, a.eval x)) = xs) (hr : ∀ w, (Instr.build 26 xs).run Tryz.prog w = .ok (.agg (hCells h)) w)
    (k : wpList Tryz.prog ops Q rest (a.put o.dst (.agg (hCells h))) w) : wpList Tryz.prog ops Q (o :: rest) a w := build_w hg _ parts ho _ xs hx hr k
end
theorem host_six (l : Bytes) (sp : Bool) : ((hostP l sp).getD H0).six.length = 8 := by
  cases h : hostP l sp with
  | none => rfl
  | some g =>
    cases hkind h with
    | six a h8 ha hs => exact h8
    | _ => rfl
/-- host.Parse and its reference, of a small text -/
theorem hp_small (s : ByteArray) (sp : Bool) (hs : s.size ≤ 1000) {w W : World} (hE : Env w) (hb : Below w.heap.size w W) : Calls Tryz.prog 11 #[.string s, .bool sp] W fun e w' => e = hostE (hostP (ls s) sp) ∧ Below W.heap.size W w' := by
  have hp := hparse_any (ls s) sp W (short_of (by rw [ls_length]; omega)) (hE.below hb)
  rw [bs_ls] at hp
  exact hp
theorem rhp_small (s : ByteArray) (sp : Bool) (hs : s.size ≤ 1000) (W : World) : Calls Tryz.prog 12 #[.string s, .bool sp] W fun e w' => e = hostE (hostP (ls s) sp) ∧ Below W.heap.size W w' := by
  have hp := rhparse_any (ls s) sp W (by rw [ls_length]; omega)
  rw [bs_ls] at hp
  exact hp
theorem stp {a b c : World} (h1 : Below a.heap.size a b) (h2 : Below b.heap.size b c) : Below a.heap.size a c := h1.trans (h2.mono h1.size)
end Go.Proofs.YtgfklkfbccknoaaGreatDoor

/- The small case that each statement of layer 11 begins with. -/
namespace Go.Proofs.YtgfklkfbccknoaaGreatDoor
open Go.RowKit
set_option maxRecDepth 10000

def g1 : Hst := { H0 with kind := 3, four := 2130706433 }
def g2 : Hst := { H0 with kind := 5, name := [48, 120, 55, 70, 46, 49] }
def g3 : Hst := { H0 with kind := 2, name := [97, 97, 46, 98] }
def g4 : Hst := { H0 with kind := 4, six := [0, 0, 0, 0, 0, 0, 0, 1] }
def g6 : Hst := { H0 with kind := 1 }
def g10 : Hst := { H0 with kind := 5, name := [97, 37, 122, 122, 37, 55, 70, 37, 67, 51] }
theorem q1 : hostP (ls ⟨#[48, 120, 55, 70, 46, 49]⟩) true = some g1 := by kernel_rfl
theorem q2 : hostP (ls ⟨#[48, 120, 55, 70, 46, 49]⟩) false = some g2 := by kernel_rfl
theorem q3 : hostP (ls ⟨#[65, 37, 52, 49, 239, 188, 142, 98]⟩) true = some g3 := by kernel_rfl
theorem q4 : hostP (ls ⟨#[91, 58, 58, 49, 93]⟩) false = some g4 := by kernel_rfl
theorem q5 : hostP (ls ⟨#[91, 58, 58, 49]⟩) true = none := by kernel_rfl
theorem q6 : hostP (ls ⟨#[]⟩) false = some g6 := by kernel_rfl
theorem q7 : hostP (ls ⟨#[]⟩) true = none := by kernel_rfl
theorem q8 : hostP (ls ⟨#[97, 37, 50, 102, 98]⟩) true = none := by kernel_rfl
theorem q9 : hostP (ls ⟨#[97, 32, 98]⟩) false = none := by kernel_rfl
theorem q10 : hostP (ls ⟨#[97, 37, 122, 122, 127, 195]⟩) false = some g10 := by kernel_rfl
theorem q11 : hostP (ls ⟨#[49, 46, 48, 57]⟩) true = none := by kernel_rfl
theorem sm_T (s : ByteArray) (sp : Bool) (G : Hst) (h : hostP (ls s) sp = some G) (hs : s.size ≤ 300) (W : World) (hE : Env W) : Calls Tryz.prog 11 #[.string s, .bool sp] W fun e w' => e = .returned (.tuple #[.agg (hCells G), .bool true]) ∧ Below W.heap.size W w' := by
  have hp := hparse_any (ls s) sp W (short_of (by rw [ls_length]; omega)) hE
  rw [bs_ls, h] at hp
  exact hp
theorem sm_N (s : ByteArray) (sp : Bool) (h : hostP (ls s) sp = none) (hs : s.size ≤ 300) (W : World) (hE : Env W) : Calls Tryz.prog 11 #[.string s, .bool sp] W fun e w' => e = .returned (.tuple #[.agg (hCells H0), .bool false]) ∧ Below W.heap.size W w' := by
  have hp := hparse_any (ls s) sp W (short_of (by rw [ls_length]; omega)) hE
  rw [bs_ls, h] at hp
  exact hp
theorem sm_W (G : Hst) (ok : HstOk G) (hn : G.name.length ≤ 1000) (x : ByteArray) (hx : bs (hostF G) = x) (W : World) (hN : NE W) : Calls Tryz.prog 13 #[.agg (hCells G)] W fun e w' => e = .returned (.string x) ∧ Below W.heap.size W w' := by
  subst hx
  exact hwrite_any G (hCells G) W (hstAt_of ok) (by omega) hN
theorem ok1 : HstOk g1 := ⟨by simp [g1, H0], by simp [g1, H0], rfl, by simp [g1, H0, Z8]⟩
theorem ok4 : HstOk g4 := ⟨by simp [g4, H0], by simp [g4, H0], rfl, by simp [g4, H0]⟩
theorem ok6 : HstOk g6 := ⟨by simp [g6, H0], by simp [g6, H0], rfl, by simp [g6, H0, Z8]⟩
theorem wr1 : bs (hostF g1) = ⟨#[49, 50, 55, 46, 48, 46, 48, 46, 49]⟩ := by
  have e : ∀ u, u < 256 → Lib.decDigits u = d3F u := fun u h => dec_d3 h
  show bs (fourF 2130706433) = _
  unfold fourF
  rw [e _ (by decide), e _ (by decide), e _ (by decide)]
  rfl
theorem wr4 : bs (hostF g4) = ⟨#[91, 58, 58, 49, 93]⟩ := by kernel_rfl
theorem wr6 : bs (hostF g6) = ⟨#[]⟩ := by kernel_rfl
theorem bq1 : ∀ w, (Instr.build 26 #[(0, .int .i64 3), (2, .int .u32 2130706433)]).run Tryz.prog w = .ok (.agg (hCells g1)) w := fun w => by kernel_rfl
theorem bq2 : ∀ w, (Instr.build 26 #[(0, .int .i64 5), (1, .string ⟨#[48, 120, 55, 70, 46, 49]⟩)]).run Tryz.prog w = .ok (.agg (hCells g2)) w := fun w => by kernel_rfl
theorem bq3 : ∀ w, (Instr.build 26 #[(0, .int .i64 2), (1, .string ⟨#[97, 97, 46, 98]⟩)]).run Tryz.prog w = .ok (.agg (hCells g3)) w := fun w => by kernel_rfl
theorem bq6 : ∀ w, (Instr.build 26 #[(0, .int .i64 1)]).run Tryz.prog w = .ok (.agg (hCells g6)) w := fun w => by kernel_rfl
theorem bad94 : badF 94 = true := by decide
theorem bad37 : badF 37 = false := by decide
set_option maxHeartbeats 40000000 in
theorem small11_any (w : World) (hE : Env w) (hN : NE w) : Calls Tryz.prog 10 #[] w fun e w' => e = .returned (.bool true) ∧ Below w.heap.size w w' := by
  have HE := Lib.hid hE
  have HN := Lib.hid hN
  have HB0 := Lib.hid (Below.refl w.heap.size w)
  clear hE hN
  go_enter Tryz.func10, Tryz.ntmps10
  go_upto_region 2 with (first
    | (refine alloc_to rfl 26 rfl _ _ (allH _) ?_)
    | (go_at_call 11; refine (sm_T _ true g1 q1 (by decide) _ (HE.out.below HB0.out)).mono ?_; rintro e w1 ⟨rfl, hb⟩; have HC1 := Lib.hid hb; clear hb)
    | (refine storeH rfl (.tmp 1) (.tmp 25) rfl g1 rfl rfl rfl rfl ?_; intro W1 hh hb; have HH1 := Lib.hid hh; have HS1 := Lib.hid (stp HC1.out hb); have HB1 := Lib.hid (stp HB0.out HS1.out); clear hh hb HC1)
    | fail)
  go_upto_region 3 with (first
    | (refine alloc_to rfl 26 rfl _ _ (allH _) ?_)
    | (go_at_call 11; refine (sm_T _ false g2 q2 (by decide) _ (HE.out.below HB1.out)).mono ?_; rintro e w2 ⟨rfl, hb⟩; have HC2 := Lib.hid hb; clear hb)
    | (refine storeH rfl (.tmp 3) (.tmp 29) rfl g2 rfl rfl rfl rfl ?_; intro W2 hh hb; have HH2 := Lib.hid hh; have HS2 := Lib.hid (stp HC2.out hb); have HB2 := Lib.hid (stp HB1.out HS2.out); clear hh hb HC2)
    | fail)
  go_upto_region 4 with (first
    | (refine alloc_to rfl 26 rfl _ _ (allH _) ?_)
    | (go_at_call 11; refine (sm_T _ true g3 q3 (by decide) _ (HE.out.below HB2.out)).mono ?_; rintro e w3 ⟨rfl, hb⟩; have HC3 := Lib.hid hb; clear hb)
    | (refine storeH rfl (.tmp 5) (.tmp 33) rfl g3 rfl rfl rfl rfl ?_; intro W3 hh hb; have HH3 := Lib.hid hh; have HS3 := Lib.hid (stp HC3.out hb); have HB3 := Lib.hid (stp HB2.out HS3.out); clear hh hb HC3)
    | fail)
  go_upto_region 5 with (first
    | (refine alloc_to rfl 26 rfl _ _ (allH _) ?_)
    | (go_at_call 11; refine (sm_T _ false g4 q4 (by decide) _ (HE.out.below HB3.out)).mono ?_; rintro e w4 ⟨rfl, hb⟩; have HC4 := Lib.hid hb; clear hb)
    | (refine storeH rfl (.tmp 7) (.tmp 37) rfl g4 rfl rfl rfl rfl ?_; intro W4 hh hb; have HH4 := Lib.hid hh; have HS4 := Lib.hid (stp HC4.out hb); have HB4 := Lib.hid (stp HB3.out HS4.out); clear hh hb HC4)
    | fail)
  go_upto_region 6 with (first
    | (refine alloc_to rfl 26 rfl _ _ (allH _) ?_)
    | (go_at_call 11; refine (sm_N _ true q5 (by decide) _ (HE.out.below HB4.out)).mono ?_; rintro e w5 ⟨rfl, hb⟩; have HC5 := Lib.hid hb; clear hb)
    | (refine storeH rfl (.tmp 9) (.tmp 41) rfl H0 rfl rfl rfl rfl ?_; intro W5 hh hb; have HH5 := Lib.hid hh; have HS5 := Lib.hid (stp HC5.out hb); have HB5 := Lib.hid (stp HB4.out HS5.out); clear hh hb HC5)
    | fail)
  go_upto_region 7 with (first
    | (refine alloc_to rfl 26 rfl _ _ (allH _) ?_)
    | (go_at_call 11; refine (sm_T _ false g6 q6 (by decide) _ (HE.out.below HB5.out)).mono ?_; rintro e w6 ⟨rfl, hb⟩; have HC6 := Lib.hid hb; clear hb)
    | (refine storeH rfl (.tmp 11) (.tmp 45) rfl g6 rfl rfl rfl rfl ?_; intro W6 hh hb; have HH6 := Lib.hid hh; have HS6 := Lib.hid (stp HC6.out hb); have HB6 := Lib.hid (stp HB5.out HS6.out); clear hh hb HC6)
    | fail)
  go_upto_region 8 with (first
    | (refine alloc_to rfl 26 rfl _ _ (allH _) ?_)
    | (go_at_call 11; refine (sm_N _ true q7 (by decide) _ (HE.out.below HB6.out)).mono ?_; rintro e w7 ⟨rfl, hb⟩; have HC7 := Lib.hid hb; clear hb)
    | (refine storeH rfl (.tmp 13) (.tmp 49) rfl H0 rfl rfl rfl rfl ?_; intro W7 hh hb; have HH7 := Lib.hid hh; have HS7 := Lib.hid (stp HC7.out hb); have HB7 := Lib.hid (stp HB6.out HS7.out); clear hh hb HC7)
    | fail)
  go_upto_region 9 with (first
    | (refine alloc_to rfl 26 rfl _ _ (allH _) ?_)
    | (go_at_call 11; refine (sm_N _ true q8 (by decide) _ (HE.out.below HB7.out)).mono ?_; rintro e w8 ⟨rfl, hb⟩; have HC8 := Lib.hid hb; clear hb)
    | (refine storeH rfl (.tmp 15) (.tmp 53) rfl H0 rfl rfl rfl rfl ?_; intro W8 hh hb; have HH8 := Lib.hid hh; have HS8 := Lib.hid (stp HC8.out hb); have HB8 := Lib.hid (stp HB7.out HS8.out); clear hh hb HC8)
    | fail)
  go_upto_region 10 with (first
    | (refine alloc_to rfl 26 rfl _ _ (allH _) ?_)
    | (go_at_call 11; refine (sm_N _ false q9 (by decide) _ (HE.out.below HB8.out)).mono ?_; rintro e w9 ⟨rfl, hb⟩; have HC9 := Lib.hid hb; clear hb)
    | (refine storeH rfl (.tmp 17) (.tmp 57) rfl H0 rfl rfl rfl rfl ?_; intro W9 hh hb; have HH9 := Lib.hid hh; have HS9 := Lib.hid (stp HC9.out hb); have HB9 := Lib.hid (stp HB8.out HS9.out); clear hh hb HC9)
    | fail)
  go_upto_region 11 with (first
    | (refine alloc_to rfl 26 rfl _ _ (allH _) ?_)
    | (go_at_call 11; refine (sm_T _ false g10 q10 (by decide) _ (HE.out.below HB9.out)).mono ?_; rintro e w10 ⟨rfl, hb⟩; have HC10 := Lib.hid hb; clear hb)
    | (refine storeH rfl (.tmp 19) (.tmp 61) rfl g10 rfl rfl rfl rfl ?_; intro W10 hh hb; have HH10 := Lib.hid hh; have HS10 := Lib.hid (stp HC10.out hb); have HB10 := Lib.hid (stp HB9.out HS10.out); clear hh hb HC10)
    | fail)
  go_upto_region 12 with (first
    | (refine alloc_to rfl 26 rfl _ _ (allH _) ?_)
    | (go_at_call 11; refine (sm_N _ true q11 (by decide) _ (HE.out.below HB10.out)).mono ?_; rintro e w11 ⟨rfl, hb⟩; have HC11 := Lib.hid hb; clear hb)
    | (refine storeH rfl (.tmp 21) (.tmp 65) rfl H0 rfl rfl rfl rfl ?_; intro W11 hh hb; have HH11 := Lib.hid hh; have HS11 := Lib.hid (stp HC11.out hb); have HB11 := Lib.hid (stp HB10.out HS11.out); clear hh hb HC11; have HK1 := Lib.hid (fun (W : World) (hW : Below W11.heap.size W11 W) => HH1.out.keep (stp (stp (stp (stp (stp (stp (stp (stp (stp (stp HS2.out HS3.out) HS4.out) HS5.out) HS6.out) HS7.out) HS8.out) HS9.out) HS10.out) HS11.out) hW)); have HK2 := Lib.hid (fun (W : World) (hW : Below W11.heap.size W11 W) => HH2.out.keep (stp (stp (stp (stp (stp (stp (stp (stp (stp HS3.out HS4.out) HS5.out) HS6.out) HS7.out) HS8.out) HS9.out) HS10.out) HS11.out) hW)); have HK3 := Lib.hid (fun (W : World) (hW : Below W11.heap.size W11 W) => HH3.out.keep (stp (stp (stp (stp (stp (stp (stp (stp HS4.out HS5.out) HS6.out) HS7.out) HS8.out) HS9.out) HS10.out) HS11.out) hW)); have HK4 := Lib.hid (fun (W : World) (hW : Below W11.heap.size W11 W) => HH4.out.keep (stp (stp (stp (stp (stp (stp (stp HS5.out HS6.out) HS7.out) HS8.out) HS9.out) HS10.out) HS11.out) hW)); have HK6 := Lib.hid (fun (W : World) (hW : Below W11.heap.size W11 W) => HH6.out.keep (stp (stp (stp (stp (stp HS7.out HS8.out) HS9.out) HS10.out) HS11.out) hW)); have HK10 := Lib.hid (fun (W : World) (hW : Below W11.heap.size W11 W) => HH10.out.keep (stp HS11.out hW)); have HR := Lib.hid (Below.refl W11.heap.size W11); have c40 := (HK4.out _ HR.out).cell 0; have c410 := (HK4.out _ HR.out).cell 10; have c101 := (HK10.out _ HR.out).cell 1; rw [show (hCells g4)[0]? = some (.int .i64 4) from rfl] at c40; rw [show (hCells g4)[10]? = some (.int .u16 1) from rfl] at c410; rw [show (hCells g10)[1]? = some (.string ⟨#[97, 37, 122, 122, 37, 55, 70, 37, 67, 51]⟩) from rfl] at c101)
    | fail)
  refine wp_region_lit ?_
  simp only [List.append_eq, List.cons_append, List.nil_append]
  go_wp2_with (first
    | (refine loadH (by rfl) (.tmp 1) rfl _ g1 (by first | exact HK1.out _ HR.out) rfl ?_)
    | (refine loadH (by rfl) (.tmp 3) rfl _ g2 (by first | exact HK2.out _ HR.out) rfl ?_)
    | (refine loadH (by rfl) (.tmp 5) rfl _ g3 (by first | exact HK3.out _ HR.out) rfl ?_)
    | (refine loadH (by rfl) (.tmp 7) rfl _ g4 (by first | exact HK4.out _ HX1.out) rfl ?_)
    | (refine loadH (by rfl) (.tmp 11) rfl _ g6 (by first | exact HK6.out _ HX2.out | exact HK6.out _ HR.out) rfl ?_)
    | (refine bldH (by rfl) #[(0, .const (.int .i64 3)), (2, .const (.int .u32 2130706433))] rfl _ g1 (by rfl) bq1 ?_)
    | (refine bldH (by rfl) #[(0, .const (.int .i64 5)), (1, .const (.string ⟨#[48, 120, 55, 70, 46, 49]⟩))] rfl _ g2 (by rfl) bq2 ?_)
    | (refine bldH (by rfl) #[(0, .const (.int .i64 2)), (1, .const (.string ⟨#[97, 97, 46, 98]⟩))] rfl _ g3 (by rfl) bq3 ?_)
    | (refine bldH (by rfl) #[(0, .const (.int .i64 1))] rfl _ g6 (by rfl) bq6 ?_)
    | (refine eqH (by rfl) (.tmp 67) (.tmp 68) rfl g1 rfl rfl rfl ?_)
    | (refine eqH (by rfl) (.tmp 74) (.tmp 75) rfl g2 rfl rfl rfl ?_)
    | (refine eqH (by rfl) (.tmp 82) (.tmp 83) rfl g3 rfl rfl rfl ?_)
    | (refine eqH (by rfl) (.tmp 108) (.tmp 109) rfl g6 rfl rfl rfl ?_)
    | fail)
  refine (sm_W g1 ok1 (by decide) _ wr1 _ (HN.out.below HB11.out)).mono ?_
  rintro e x1 ⟨rfl, hb⟩
  have HX1 := Lib.hid hb; clear hb
  go_wp2_with (first
    | (refine loadH (by rfl) (.tmp 7) rfl _ g4 (by first | exact HK4.out _ HX1.out) rfl ?_)
    | fail)
  refine (sm_W g4 ok4 (by decide) _ wr4 _ (HN.out.below (stp HB11.out HX1.out))).mono ?_
  rintro e x2 ⟨rfl, hb⟩
  have HX2 := Lib.hid (stp HX1.out hb); clear hb
  go_wp2_with (first
    | (refine loadH (by rfl) (.tmp 11) rfl _ g6 (by first | exact HK6.out _ HX2.out) rfl ?_)
    | fail)
  refine (sm_W g6 ok6 (by decide) _ wr6 _ (HN.out.below (stp HB11.out HX2.out))).mono ?_
  rintro e x3 ⟨rfl, hb⟩
  have HX3 := Lib.hid (stp HX2.out hb); clear hb
  go_wp2_with fail
  refine (bad_any 94 _).mono ?_
  rintro e x4 ⟨rfl, hw⟩
  subst hw
  rw [bad94]
  go_wp2_with fail
  refine (bad_any 37 _).mono ?_
  rintro e x5 ⟨rfl, hw⟩
  subst hw
  rw [bad37]
  go_wp2_with fail
  go_ret
  exact ⟨ret1_bool (by simp), stp HB11.out HX3.out⟩
end Go.Proofs.YtgfklkfbccknoaaGreatDoor

/- More kit of the walks of layer 11's statements: the eight pieces of a host, loaded and compared. -/
namespace Go.Proofs.YtgfklkfbccknoaaGreatDoor
open Go.RowKit
set_option maxRecDepth 10000

theorem HB.six {W : World} {b : Nat} {h : Hst} (i : HB W b h) : W.rangeAt b 3 (U16s h.six) := fun j v hj => by
  rw [i.cell]
  show (hstCells h).toArray[3 + j]? = some v
  rw [List.getElem?_toArray]
  unfold hstCells
  rw [show 3 + j = j + 1 + 1 + 1 by omega]
  simp only [List.getElem?_cons_succ]
  exact hj
section
variable {ops : Array Oper} {rest : List Oper} {o : Oper} {a : Act} {w : World} {Q : Exit → Act → World → Prop}
theorem load6 (hg : Region.wanted o (yielded ops a.tmps) = true) (x : Operand) (ho : o.op = .load 24 x) (b n : Nat) (l : List Int) (hl : l.length = 8) (i : w.rangeAt b n (U16s l)) (hx : a.eval x = .pointer (some ⟨b, n, none⟩))
    (k : wpList Tryz.prog ops Q rest (a.put o.dst (.agg (U16s l).toArray)) w) : wpList Tryz.prog ops Q (o :: rest) a w := by
  refine val_w hg (.agg (U16s l).toArray) ?_ k
  have e := run_loadAt_mid (P := Tryz.prog) w b n 24 (U16s l) _ i Tryz.underlying24 rfl (by rw [show (U16s l).length = 8 by simp [hl]]; kernel_rfl)
  unfold execOp
  simp only [ho, hx, Sem.run_bind, Sem.run_pure, Result.andThen_ok, e]
theorem bld6 : ∀ w, (Instr.build 24 #[]).run Tryz.prog w = .ok (.agg (U16s Z8).toArray) w := fun w => by kernel_rfl
theorem build6 (hg : Region.wanted o (yielded ops a.tmps) = true) (ho : o.op = .build 24 #[]) (k : wpList Tryz.prog ops Q rest (a.put o.dst (.agg (U16s Z8).toArray)) w) : wpList Tryz.prog ops Q (o :: rest) a w :=
  build_w hg _ #[] ho _ #[] (by simp) bld6 k
theorem neq6_run : ∀ w, (binOp .neq 24 (.agg (U16s Z8).toArray) (.agg (U16s Z8).toArray)).run Tryz.prog w = .ok (.bool false) w := fun w => by kernel_rfl
theorem neq6 (hg : Region.wanted o (yielded ops a.tmps) = true) (x y : Operand) (ho : o.op = .binOp .neq 24 x y 24) (hx : a.eval x = .agg (U16s Z8).toArray) (hy : a.eval y = .agg (U16s Z8).toArray)
    (k : wpList Tryz.prog ops Q rest (a.put o.dst (.bool false)) w) : wpList Tryz.prog ops Q (o :: rest) a w := by
  refine val_w hg (.bool false) ?_ k
  have e := neq6_run w
  have g := run_eqGuard_agg (P := Tryz.prog) w .neq 24 x y (U16s Z8).toArray (U16s Z8).toArray (by kernel_rfl)
  unfold execOp
  simp only [ho, hx, hy, Sem.run_bind, Sem.run_pure, Result.andThen_ok, e, g]
end
/-- what each kind of host holds -/
theorem kinds_of {s : Bytes} {sp : Bool} {G : Hst} (hk : HKind s sp G) :
    (G.kind = 4 ∧ s.head? = some 91 ∧ G.name = [] ∧ G.four = 0) ∨ (G.kind = 2 ∧ sp = true ∧ G.name ≠ [] ∧ G.four = 0 ∧ G.six = Z8) ∨ (G.kind = 3 ∧ sp = true ∧ G.name = [] ∧ G.six = Z8) ∨ (G.kind = 1 ∧ sp = false ∧ G.name = [] ∧ G.four = 0 ∧ G.six = Z8) ∨ (G.kind = 5 ∧ sp = false ∧ G.name ≠ [] ∧ G.four = 0 ∧ G.six = Z8) := by
  cases hk with
  | six a h8 ha hs => exact .inl ⟨rfl, hs, rfl, rfl⟩
  | name n e hs hd hn hb he => exact .inr (.inl ⟨rfl, e, hn, rfl, rfl⟩)
  | four n e hs h => exact .inr (.inr (.inl ⟨rfl, e, rfl, rfl⟩))
  | empty e h => exact .inr (.inr (.inr (.inl ⟨rfl, e, rfl, rfl, rfl⟩)))
  | opaq e hs h hb => exact .inr (.inr (.inr (.inr ⟨rfl, e, pc_ne h, rfl, rfl⟩)))
theorem ce0 (h : Hst) : (hCells h)[0]? = some (.int .i64 h.kind) := rfl
theorem ce1 (h : Hst) : (hCells h)[1]? = some (.string (bs h.name)) := rfl
theorem ce2 (h : Hst) : (hCells h)[2]? = some (.int .u32 h.four) := rfl
end Go.Proofs.YtgfklkfbccknoaaGreatDoor

/- More kit of the walks of layer 11's statements: hosts built of two parts, under a guard. -/
namespace Go.Proofs.YtgfklkfbccknoaaGreatDoor
open Go.RowKit
set_option maxRecDepth 10000

section
variable {ops : Array Oper} {rest : List Oper} {o : Oper} {a : Act} {w : World} {Q : Exit → Act → World → Prop}
theorem bld2_exec (i j : Nat) (x y : Operand) (ho : o.op = .build 26 #[(i, x), (j, y)]) (X Y : Value) (h : Hst) (hx : a.eval x = X) (hy : a.eval y = Y)
    (hr : ∀ w, (Instr.build 26 #[(i, X), (j, Y)]).run Tryz.prog w = .ok (.agg (hCells h)) w) : (execOp a.eval o).run Tryz.prog w = .ok (.value (.agg (hCells h))) w := by
  refine bldH_exec _ ho #[(i, X), (j, Y)] h ?_ hr
  subst hx; subst hy
  simp
theorem bld2_w (hg : Region.wanted o (yielded ops a.tmps) = true) (i j : Nat) (x y : Operand) (ho : o.op = .build 26 #[(i, x), (j, y)]) (X Y : Value) (h : Hst) (hx : a.eval x = X) (hy : a.eval y = Y)
    (hr : ∀ w, (Instr.build 26 #[(i, X), (j, Y)]).run Tryz.prog w = .ok (.agg (hCells h)) w) (k : wpList Tryz.prog ops Q rest (a.put o.dst (.agg (hCells h))) w) : wpList Tryz.prog ops Q (o :: rest) a w :=
  val_w hg _ (bld2_exec i j x y ho X Y h hx hy hr) k
end
end Go.Proofs.YtgfklkfbccknoaaGreatDoor
