/- HlwA HlwB HlwC AthC PrsA PrsB AthE AthF AthG AthH AthK UrlB AthL: joined. -/
import Derived.Laws.StructEq
import Derived.ChangeKeysEq
import Derived.Test.YtjgenpooedkfmaaGreatDoorGSixF
import Derived.Test.YtjgenpooedkfmaaGreatDoorGSlic
import Derived.Test.YtjgenpooedkfmaaGreatDoorGAthB
import Derived.Test.YtjgenpooedkfmaaGreatDoorGOwnB
import Derived.Deep.DeepCutAuto
/- Kit of the walks of layer 11's statements: hosts in blocks, compared. -/
namespace Go.Proofs.YtjgenpooedkfmaaGreatDoor
open Go.RowKit
set_option maxRecDepth 10000

section
variable {P : Program} {ops : Array Oper} {rest : List Oper} {o : Oper} {a : Act} {w : World} {Q : Exit → Act → World → Prop}
theorem val_w (hg : Region.wanted o (yielded ops a.tmps) = true) (v : Value) (hr : (execOp a.eval o).run P w = .ok (.value v) w) (h : wpList P ops Q rest (a.put o.dst v) w) : wpList P ops Q (o :: rest) a w := by
  unfold wpList
  rw [if_pos hg]
  refine .inl ?_
  unfold Oper.wp
  rw [hr]
  exact h
theorem build_w (hg : Region.wanted o (yielded ops a.tmps) = true) (t : TypeId) (parts : Array (Nat × Operand)) (ho : o.op = .build t parts) (v : Value) (xs : Array (Nat × Value)) (hx : parts.map (fun (i, x) => (i, a.eval x)) = xs) (hr : ∀ w, (Instr.build t xs).run P w = .ok v w) (h : wpList P ops Q rest (a.put o.dst v) w) : wpList P ops Q (o :: rest) a w := by
  refine val_w hg v ?_ h
  subst hx
  unfold execOp
  simp only [ho, Sem.run_bind, Sem.run_pure, Result.andThen_ok, hr]
end
/-- a host in a block of its own -/
structure HB (W : World) (b : Nat) (h : Hst) : Prop where
  a : W.heap[b]? = some (.cells (hCells h) 27 (0, 0))
  l : h.six.length = 8
theorem HB.lt {W : World} {b : Nat} {h : Hst} (i : HB W b h) : b < W.heap.size := (Array.getElem?_eq_some_iff.1 i.a).1
theorem HB.keep {W W' : World} {b : Nat} {h : Hst} (i : HB W b h) (hb : Below W.heap.size W W') : HB W' b h := ⟨(hb.block b i.lt).trans i.a, i.l⟩
theorem HB.new (W : World) (h : Hst) (l : h.six.length = 8) : HB (W.alloc (.cells (hCells h) 27)) W.heap.size h := ⟨heap_alloc_new W _, l⟩
theorem HB.cell {W : World} {b : Nat} {h : Hst} (i : HB W b h) (j : Nat) : W.cell? ⟨b, j, none⟩ = (hCells h)[j]? := by
  simp [World.cell?, i.a]
theorem HB.load {W : World} {b : Nat} {h : Hst} (i : HB W b h) : (loadVar 27 ⟨b, 0, none⟩).run Tryz.prog W = .ok (.agg (hCells h)) W := load_host W b h i.a i.l
theorem six_eq (a b c d e g i j : Int) (D : Nat) (w : World) : (Op.equalIn (D + 2) 25 (.agg #[.int .u16 a, .int .u16 b, .int .u16 c, .int .u16 d, .int .u16 e, .int .u16 g, .int .u16 i, .int .u16 j]) (.agg #[.int .u16 a, .int .u16 b, .int .u16 c, .int .u16 d, .int .u16 e, .int .u16 g, .int .u16 i, .int .u16 j])).run Tryz.prog w = .ok true w := by
  have hu := Tryz.underlying24
  obtain ⟨i8, hi8, hz⟩ : ∃ i, Tryz.prog.info? 24 = some i ∧ i.size = 1 := ⟨_, rfl, by kernel_rfl⟩
  have hc : Tryz.prog.cellsOf 24 = 1 := by kernel_rfl
  rw [run_equalIn_array w (D + 1) _ _ Tryz.underlying25 hi8, hc, show List.range 8 = [0, 1, 2, 3, 4, 5, 6, 7] from rfl]
  simp only [Op.eqItems]
  clear hc hz hi8
  go_simp
section
variable {ops : Array Oper} {rest : List Oper} {o : Oper} {a : Act} {w : World} {Q : Exit → Act → World → Prop}
/-- a store of a host into the block that has just been made -/
theorem storeH {W : World} (hg : o.guard = none) (x y : Operand) (ho : o.op = .store 27 x y) (h : Hst) (hl : h.six.length = 8)
    (hW : W = w.alloc (.cells (hCells H0) 27)) (hx : a.eval x = .pointer (some ⟨w.heap.size, 0, none⟩)) (hy : a.eval y = .agg (hCells h))
    (k : ∀ w', HB w' w.heap.size h → Below w.heap.size w w' → wpList Tryz.prog ops Q rest (a.put o.dst undef) w') : wpList Tryz.prog ops Q (o :: rest) a W := by
  subst hW
  have hz : (hCells h).size = 11 := by simp [hstCells, hl]
  exact store_new hg 27 x y ho (hCells h) (hCells H0) 27 hx hy (hsize h hl) (by rw [hz]; rfl) (honec h) (k _ (HB.new w h hl) ((Below.refl _ _).alloc (Nat.le_refl _) _))
/-- a load of a host -/
theorem loadH (hg : Region.wanted o (yielded ops a.tmps) = true) (x : Operand) (ho : o.op = .load 27 x) (b : Nat) (h : Hst) (i : HB w b h) (hx : a.eval x = .pointer (some ⟨b, 0, none⟩))
    (k : wpList Tryz.prog ops Q rest (a.put o.dst (.agg (hCells h))) w) : wpList Tryz.prog ops Q (o :: rest) a w := by
  refine val_w hg (.agg (hCells h)) ?_ k
  have e := i.load
  unfold execOp
  simp only [ho, hx, Instr.loadAt, Instr.sureAddr, Sem.run_bind, Sem.run_pure, Result.andThen_ok, e]
theorem bldH (hg : Region.wanted o (yielded ops a.tmps) = true) (parts : Array (Nat × Operand)) (ho : o.op = .build 27 parts) (xs : Array (Nat × Value)) (h : Hst) (hx : parts.map (fun (i, x) => (i, a.eval x)) = xs) (hr : ∀ w, (Instr.build 27 xs).run Tryz.prog w = .ok (.agg (hCells h)) w)
    (k : wpList Tryz.prog ops Q rest (a.put o.dst (.agg (hCells h))) w) : wpList Tryz.prog ops Q (o :: rest) a w := build_w hg _ parts ho _ xs hx hr k
end
theorem stp {a b c : World} (h1 : Below a.heap.size a b) (h2 : Below b.heap.size b c) : Below a.heap.size a c := h1.trans (h2.mono h1.size)
end Go.Proofs.YtjgenpooedkfmaaGreatDoor

/- The small case that each statement of layer 11 begins with. -/
namespace Go.Proofs.YtjgenpooedkfmaaGreatDoor
open Go.RowKit
set_option maxRecDepth 10000

def g1 : Hst := { H0 with kind := 3, four := 2130706433 }
def g2 : Hst := { H0 with kind := 5, name := [48, 120, 55, 70, 46, 49] }
def g3 : Hst := { H0 with kind := 2, name := [97, 97, 46, 98] }
def g4 : Hst := { H0 with kind := 4, six := [0, 0, 0, 0, 0, 0, 0, 1] }
theorem q1 : hostP (ls ⟨#[48, 120, 55, 70, 46, 49]⟩) true = some g1 := by kernel_rfl
theorem q2 : hostP (ls ⟨#[48, 120, 55, 70, 46, 49]⟩) false = some g2 := by kernel_rfl
theorem q3 : hostP (ls ⟨#[65, 37, 52, 49, 239, 188, 142, 98]⟩) true = some g3 := by kernel_rfl
theorem q4 : hostP (ls ⟨#[91, 58, 58, 49, 93]⟩) false = some g4 := by kernel_rfl
theorem q5 : hostP (ls ⟨#[91, 58, 58, 49]⟩) true = none := by kernel_rfl
end Go.Proofs.YtjgenpooedkfmaaGreatDoor

/- More kit of the walks of layer 11's statements: the eight pieces of a host, loaded and compared. -/
namespace Go.Proofs.YtjgenpooedkfmaaGreatDoor
open Go.RowKit
set_option maxRecDepth 10000

theorem HB.six {W : World} {b : Nat} {h : Hst} (i : HB W b h) : W.rangeAt b 3 (U16s h.six) := fun j v hj => by
  rw [i.cell]
  show (hstCells h).toArray[3 + j]? = some v
  rw [List.getElem?_toArray]
  unfold hstCells
  rw [show 3 + j = j + 1 + 1 + 1 by omega]
  simp only [List.getElem?_cons_succ]
  exact hj
section
variable {ops : Array Oper} {rest : List Oper} {o : Oper} {a : Act} {w : World} {Q : Exit → Act → World → Prop}
end
/-- what each kind of host holds -/
theorem kinds_of {s : Bytes} {sp : Bool} {G : Hst} (hk : HKind s sp G) :
    (G.kind = 4 ∧ s.head? = some 91 ∧ G.name = [] ∧ G.four = 0) ∨ (G.kind = 2 ∧ sp = true ∧ G.name ≠ [] ∧ G.four = 0 ∧ G.six = Z8) ∨ (G.kind = 3 ∧ sp = true ∧ G.name = [] ∧ G.six = Z8) ∨ (G.kind = 1 ∧ sp = false ∧ G.name = [] ∧ G.four = 0 ∧ G.six = Z8) ∨ (G.kind = 5 ∧ sp = false ∧ G.name ≠ [] ∧ G.four = 0 ∧ G.six = Z8) := by
  cases hk with
  | six a h8 ha hs => exact .inl ⟨rfl, hs, rfl, rfl⟩
  | name n e hs hd hn hb he => exact .inr (.inl ⟨rfl, e, hn, rfl, rfl⟩)
  | four n e hs h => exact .inr (.inr (.inl ⟨rfl, e, rfl, rfl⟩))
  | empty e h => exact .inr (.inr (.inr (.inl ⟨rfl, e, rfl, rfl, rfl⟩)))
  | opaq e hs h hb => exact .inr (.inr (.inr (.inr ⟨rfl, e, pc_ne h, rfl, rfl⟩)))
end Go.Proofs.YtjgenpooedkfmaaGreatDoor

/- More plain laws of layer 15: who is named; texts that are hosts; which kinds there are. -/
namespace Go.Proofs.YtjgenpooedkfmaaGreatDoor
open Go.RowKit
set_option maxRecDepth 10000

/-- which kinds there are -/
theorem auth_kinds {sch s : Bytes} {a : Ath} (h : authF sch s = some a) : a.host.kind ≠ 0 ∧ ((a.hasPort = false ∧ a.port = 0) ∨ (a.hasPort = true ∧ 0 ≤ a.port ∧ a.port ≤ 65535)) ∧ HstOk a.host ∧ ((spF sch = true ∧ (a.host.kind = 2 ∨ a.host.kind = 3 ∨ a.host.kind = 4)) ∨ (spF sch = false ∧ (a.host.kind = 1 ∨ a.host.kind = 4 ∨ a.host.kind = 5))) := by
  obtain ⟨⟨n, hh, _⟩, _, _, q⟩ := auth_ok h
  have hk := hkind hh
  have ok := hkind_ok hk
  refine ⟨?_, ?_, ok, ?_⟩
  · rcases kinds_of hk with h | h | h | h | h <;> omega
  · rcases q with q | q
    · exact .inl q
    · exact .inr ⟨q.1, q.2.1, q.2.2.1⟩
  · rcases kinds_of hk with h | h | h | h | h
    · cases hs : spF sch
      · exact .inr ⟨rfl, .inr (.inl h.1)⟩
      · exact .inl ⟨rfl, .inr (.inr h.1)⟩
    · exact .inl ⟨h.2.1, .inl h.1⟩
    · exact .inl ⟨h.2.1, .inr (.inl h.1)⟩
    · exact .inr ⟨h.2.1, .inl h.1⟩
    · exact .inr ⟨h.2.1, .inr (.inr h.1)⟩
end Go.Proofs.YtjgenpooedkfmaaGreatDoor

/- Addresses, read: the plain form of layers 14, 16 and 17. -/
namespace Go.Proofs.YtjgenpooedkfmaaGreatDoor
open Go.RowKit
set_option maxRecDepth 10000

/-- parted at the first c: what stands ahead, behind, and whether there is one -/
def cut1 (c : UInt8) : Bytes → Bytes × Bytes × Bool
  | [] => ([], [], false)
  | x :: t => if x = c then ([], t, true) else (x :: (cut1 c t).1, (cut1 c t).2.1, (cut1 c t).2.2)
/-! layer 16: paths -/
def slP (sp : Bool) (c : UInt8) : Bool := c == 47 || (sp && c == 92)
def U0 : Url := ⟨[], [], [], H0, false, 0, false, [], [], false, [], false, []⟩
/-- authority.Cut -/
def acutF (sp : Bool) (s : Bytes) : Bytes × Bytes := (s.takeWhile fun c => !slP sp c, s.dropWhile fun c => !slP sp c)
end Go.Proofs.YtjgenpooedkfmaaGreatDoor

/- Plain laws of layers 14 and 16: parting, cleaning, pieces. -/
namespace Go.Proofs.YtjgenpooedkfmaaGreatDoor
open Go.RowKit
set_option maxRecDepth 10000

theorem cut1_none {c : UInt8} : ∀ {s : Bytes}, c ∉ s → cut1 c s = (s, [], false)
  | [], _ => rfl
  | x :: t, h => by rw [cut1, if_neg (fun e => h (by simp [e])), cut1_none (s := t) (fun h2 => h (by simp [h2]))]
theorem cut1_split {c : UInt8} (a b : Bytes) (h : c ∉ a) : cut1 c (a ++ c :: b) = (a, b, true) := by
  induction a with
  | nil => rw [List.nil_append, cut1, if_pos rfl]
  | cons x r ih => rw [List.cons_append, cut1, if_neg (fun e => h (by simp [e])), ih (fun h2 => h (by simp [h2]))]
theorem cut1_is (c : UInt8) : ∀ s : Bytes, s = (cut1 c s).1 ++ (if (cut1 c s).2.2 = true then c :: (cut1 c s).2.1 else [])
  | [] => rfl
  | x :: t => by
    rw [cut1]
    split
    · next h => rw [if_pos rfl, h]; rfl
    · rw [List.cons_append, ← cut1_is c t]
theorem cut1_flag (c : UInt8) : ∀ s : Bytes, (cut1 c s).2.2 = false → (cut1 c s).2.1 = []
  | [], _ => rfl
  | x :: t, h => by
    rw [cut1] at h ⊢
    split at h
    · cases h
    · next hx => rw [if_neg hx]; exact cut1_flag c t h
end Go.Proofs.YtjgenpooedkfmaaGreatDoor

/- authority.colon, authority.Cut, authority.Port: what they answer. -/
namespace Go.Proofs.YtjgenpooedkfmaaGreatDoor
open Go.RowKit
set_option maxRecDepth 10000

/-! the first colon outside of brackets -/
def brI (i : Bool) (c : UInt8) : Bool := if c = 91 then true else if c = 93 then false else i
def colN : Bool → Bytes → Option Nat
  | _, [] => none
  | i, c :: t => if c = 58 ∧ i = false then some 0 else (colN (brI i c) t).map (· + 1)
theorem col_n : ∀ (i : Bool) (s : Bytes), colF i s = (colN i s).map fun k => (s.take k, s.drop (k + 1))
  | _, [] => rfl
  | i, c :: t => by
    rw [colF, colN]
    split
    · rfl
    · rw [show (if c = 91 then true else if c = 93 then false else i) = brI i c from rfl, col_n (brI i c) t, Option.map_map, Option.map_map]
      rfl
theorem colN_lt : ∀ (i : Bool) (s : Bytes) (k : Nat), colN i s = some k → k < s.length
  | _, [], _, h => by cases h
  | i, c :: t, k, h => by
    rw [colN] at h
    split at h
    · injection h with h
      subst h
      simp
    · cases hc : colN (brI i c) t with
      | none => rw [hc] at h; cases h
      | some m =>
        rw [hc] at h
        injection h with h
        have h1 : m + 1 = k := h
        have := colN_lt _ t m hc
        rw [List.length_cons]; omega
theorem b2_58 {c : UInt8} : b2 c = 58 ↔ c = 58 := ⟨fun h => b2_inj (h.trans (by decide)), fun h => by rw [h]; decide⟩
theorem b2_91 {c : UInt8} : b2 c = 91 ↔ c = 91 := ⟨fun h => b2_inj (h.trans (by decide)), fun h => by rw [h]; decide⟩
theorem b2_93 {c : UInt8} : b2 c = 93 ↔ c = 93 := ⟨fun h => b2_inj (h.trans (by decide)), fun h => by rw [h]; decide⟩
theorem colN_at (i : Bool) {l : Bytes} {k : Nat} (h : k < l.length) : (colN i (l.drop k)).map (· + k) = if b2 l[k] = 58 ∧ i = false then some k else (colN (if b2 l[k] = 91 then true else if b2 l[k] = 93 then false else i) (l.drop (k + 1))).map (· + (k + 1)) := by
  have e1 : brI i l[k] = if b2 l[k] = 91 then true else if b2 l[k] = 93 then false else i := by
    unfold brI
    by_cases h1 : l[k] = 91
    · rw [if_pos h1, if_pos (b2_91.mpr h1)]
    · rw [if_neg h1, if_neg (fun h => h1 (b2_91.mp h))]
      by_cases h2 : l[k] = 93
      · rw [if_pos h2, if_pos (b2_93.mpr h2)]
      · rw [if_neg h2, if_neg (fun h => h2 (b2_93.mp h))]
  rw [List.drop_eq_getElem_cons h, colN, ← e1]
  by_cases hc : l[k] = 58 ∧ i = false
  · rw [if_pos hc, if_pos ⟨b2_58.mpr hc.1, hc.2⟩]
    simp
  · rw [if_neg hc, if_neg (fun h => hc ⟨b2_58.mp h.1, h.2⟩), Option.map_map]
    congr 1
    funext m
    simp only [Function.comp]
    omega
def posI (o : Option Nat) : Int := match o with | some k => k | none => -1
set_option maxHeartbeats 4000000 in
theorem colon_any (l : Bytes) (w : World) (hl : l.length ≤ 1000000) : Calls Tryz.prog 31 #[.string (bs l)] w fun e w' => e = .returned (.int .i64 (posI (colN false l))) ∧ w' = w := by
  obtain ⟨R, hR⟩ : ∃ R, R = colN false l := ⟨_, rfl⟩
  rw [← hR]
  have HR := Lib.hid hR; clear hR
  obtain ⟨s, hs⟩ : ∃ s, s = bs l := ⟨_, rfl⟩
  have hsz : s.size = l.length := by rw [hs, bs_size]
  have hby : ∀ k (hk : k < s.size) (hk2 : k < l.length), ((s[k]'hk).toNat : Int) = b2 l[k] := fun k hk hk2 => str_at hs hk hk2
  rw [← hs]
  clear hs
  obtain ⟨N, hN⟩ : ∃ N, N = s.size := ⟨_, rfl⟩
  have hsN : s.size = N := hN.symm
  have hNm : N ≤ 1000000 := by omega
  have HBY := Lib.hid hby; clear hby
  have HSZ := Lib.hid hsz; clear hsz hl hN
  go_enter Tryz.func31, Tryz.ntmps31
  go_wp2_with fail
  go_loopw [3, 4] (fun bv iv wr => ∃ (k : Nat) (i : Bool), k ≤ N ∧ iv = .int .i64 k ∧ bv = .bool i ∧ Hid ((colN i (l.drop k)).map (· + k) = R) ∧ w = wr) (fun _ i _ => N - (intOf i).toNat)
  case atStart => exact ⟨0, false, by omega, by simp, rfl, (by rw [HR.out]; show (colN false (List.drop 0 l)).map (· + 0) = _; simp), rfl⟩
  case round =>
    obtain ⟨k, i, hk, rfl, rfl, hd, rfl⟩ := hrel
    by_cases hlt : k < N
    · have hku : k < s.size := by omega
      have hkl : k < l.length := by have := HSZ.out; omega
      have hx := HBY.out k hku hkl
      have hst := colN_at i hkl
      rw [hd.out] at hst
      clear hd
      generalize b2 l[k] = X at hx hst
      have hX : X = 58 ∨ X = 91 ∨ X = 93 ∨ (X ≠ 58 ∧ X ≠ 91 ∧ X ≠ 93) := by omega
      rcases hX with rfl | rfl | rfl | ⟨h1, h2, h3⟩
      · cases i with
        | false =>
          rw [if_pos ⟨rfl, rfl⟩] at hst
          have HST := Lib.hid hst; clear hst
          go_wp2_with fail
          go_ret
          exact ⟨by rw [HST.out]; rfl, rfl⟩
        | true =>
          rw [if_neg (by simp), if_neg (by decide), if_neg (by decide)] at hst
          have HST := Lib.hid hst; clear hst
          go_wp2_with fail
          go_roundw
          case rel => exact ⟨k + 1, true, by omega, by simp, rfl, HST.out.symm, by trivial⟩
          case measure => simp [intOf]; omega
      · rw [if_neg (by simp), if_pos rfl] at hst
        have HST := Lib.hid hst; clear hst
        go_wp2_with fail
        go_roundw
        case rel => exact ⟨k + 1, true, by omega, by simp, rfl, HST.out.symm, by trivial⟩
        case measure => simp [intOf]; omega
      · rw [if_neg (by simp), if_neg (by decide), if_pos rfl] at hst
        have HST := Lib.hid hst; clear hst
        go_wp2_with fail
        go_roundw
        case rel => exact ⟨k + 1, false, by omega, by simp, rfl, HST.out.symm, by trivial⟩
        case measure => simp [intOf]; omega
      · rw [if_neg (fun h => h1 h.1), if_neg h2, if_neg h3] at hst
        have HST := Lib.hid hst; clear hst
        have e1 : (X == 58) = false := by simpa using h1
        have e2 : (X == 91) = false := by simpa using h2
        have e3 : (X == 93) = false := by simpa using h3
        go_wp2_with fail
        go_roundw
        case rel => exact ⟨k + 1, i, by omega, by simp, rfl, HST.out.symm, by trivial⟩
        case measure => simp [intOf]; omega
    · obtain rfl : k = N := by omega
      have hdr : l.drop k = [] := List.drop_eq_nil_of_le (by have := HSZ.out; omega)
      have hd1 := hd.out
      rw [hdr] at hd1
      have HST := Lib.hid (show none = R from hd1); clear hd1 hd
      go_wp2_with fail
      go_ret
      exact ⟨by rw [← HST.out]; rfl, rfl⟩
/-! ahead of the first slash -/
theorem acut_at {sp : Bool} {l : Bytes} : ∀ {k : Nat}, k ≤ l.length → (∀ j (hj : j < l.length), j < k → slP sp l[j] = false) → (∀ hk : k < l.length, slP sp l[k] = true) → acutF sp l = (l.take k, l.drop k) := by
  intro k hk h1 h2
  have e : l = l.take k ++ l.drop k := (List.take_append_drop k l).symm
  have ht : ∀ y ∈ l.take k, (fun c => !slP sp c) y = true := by
    intro y hy
    obtain ⟨j, hj, rfl⟩ := List.getElem_of_mem hy
    rw [List.length_take] at hj
    rw [List.getElem_take]
    simp [h1 j (by omega) (by omega)]
  have hd : (l.drop k).takeWhile (fun c => !slP sp c) = [] ∧ (l.drop k).dropWhile (fun c => !slP sp c) = l.drop k := by
    by_cases hlt : k < l.length
    · rw [List.drop_eq_getElem_cons hlt]
      have := h2 hlt
      exact ⟨List.takeWhile_cons_of_neg (by simp [this]), List.dropWhile_cons_of_neg (by simp [this])⟩
    · rw [List.drop_eq_nil_of_le (by omega)]
      exact ⟨rfl, rfl⟩
  unfold acutF
  have e1 : l.takeWhile (fun c => !slP sp c) = l.take k ++ (l.drop k).takeWhile (fun c => !slP sp c) := by
    conv => lhs; rw [e]
    exact List.takeWhile_append_of_pos ht
  have e2 : l.dropWhile (fun c => !slP sp c) = (l.drop k).dropWhile (fun c => !slP sp c) := by
    conv => lhs; rw [e]
    exact List.dropWhile_append_of_pos ht
  rw [e1, e2, hd.1, hd.2, List.append_nil]
theorem slP_b {sp : Bool} {c : UInt8} : slP sp c = (decide (b2 c = 47) || (sp && decide (b2 c = 92))) := by
  unfold slP
  have h1 : (c == 47) = decide (b2 c = 47) := by
    rw [Bool.eq_iff_iff, beq_iff_eq, decide_eq_true_eq]
    exact ⟨fun h => by rw [h]; decide, fun h => b2_inj (h.trans (by decide))⟩
  have h2 : (c == 92) = decide (b2 c = 92) := by
    rw [Bool.eq_iff_iff, beq_iff_eq, decide_eq_true_eq]
    exact ⟨fun h => by rw [h]; decide, fun h => b2_inj (h.trans (by decide))⟩
  rw [h1, h2]
set_option maxHeartbeats 4000000 in
theorem acut_any (l : Bytes) (sp : Bool) (w : World) (hl : l.length ≤ 1000000) : Calls Tryz.prog 27 #[.string (bs l), .bool sp] w fun e w' => e = .returned (.tuple #[S (acutF sp l).1, S (acutF sp l).2]) ∧ Below w.heap.size w w' := by
  obtain ⟨R, hR⟩ : ∃ R, R = acutF sp l := ⟨_, rfl⟩
  have hat : ∀ k, k ≤ l.length → (∀ j (hj : j < l.length), j < k → slP sp l[j] = false) → (∀ hk : k < l.length, slP sp l[k] = true) → R = (l.take k, l.drop k) := fun k h1 h2 h3 => hR.trans (acut_at h1 h2 h3)
  rw [← hR]
  clear hR
  have HAT := Lib.hid hat; clear hat
  obtain ⟨s, hs⟩ : ∃ s, s = bs l := ⟨_, rfl⟩
  have hsz : s.size = l.length := by rw [hs, bs_size]
  have hby : ∀ k (hk : k < s.size) (hk2 : k < l.length), ((s[k]'hk).toNat : Int) = b2 l[k] := fun k hk hk2 => str_at hs hk hk2
  have hx1 : ∀ k, s.extract 0 k = bs (l.take k) := fun k => by rw [hs, bs_extract, List.drop_zero, Nat.sub_zero]
  have hx2 : ∀ k, s.extract k s.size = bs (l.drop k) := fun k => by rw [hs, bs_extract, bs_size, List.take_of_length_le (by rw [List.length_drop]; omega)]
  rw [← hs]
  have hss : bs l = s := hs.symm
  have HSS := Lib.hid hss
  clear hs hss
  obtain ⟨N, hN⟩ : ∃ N, N = s.size := ⟨_, rfl⟩
  have hsN : s.size = N := hN.symm
  rw [hsN] at hx2
  have hNm : N ≤ 1000000 := by omega
  have HBY := Lib.hid hby; clear hby
  have HSZ := Lib.hid hsz; clear hsz hl hN
  have HX1 := Lib.hid hx1; clear hx1
  have HX2 := Lib.hid hx2; clear hx2
  go_enter Tryz.func27, Tryz.ntmps27
  go_wp2_with fail
  go_loopw [6] (fun iv wr => ∃ k : Nat, k ≤ N ∧ iv = .int .i64 k ∧ Hid (∀ j (hj : j < l.length), j < k → slP sp l[j] = false) ∧ w = wr) (fun i _ => N - (intOf i).toNat)
  case atStart => exact ⟨0, by omega, by simp, (fun j hj h => absurd h (Nat.not_lt_zero j)), rfl⟩
  case round =>
    obtain ⟨k, hk, rfl, hall, rfl⟩ := hrel
    by_cases hlt : k < N
    · have hku : k < s.size := by omega
      have hkl : k < l.length := by have := HSZ.out; omega
      have hx := HBY.out k hku hkl
      have hnext : slP sp l[k] = false → ∀ j (hj : j < l.length), j < k + 1 → slP sp l[j] = false := fun h j hj h1 => by
        rcases Nat.lt_or_ge j k with h2 | h2
        · exact hall.out j hj h2
        · obtain rfl : j = k := by omega
          exact h
      have hhit : slP sp l[k] = true → R = (l.take k, l.drop k) := fun h => HAT.out k (by omega) hall.out (fun _ => h)
      rw [slP_b] at hnext hhit
      have HN := Lib.hid hnext; clear hnext
      have HH := Lib.hid hhit; clear hhit hall
      have e1 := HX1.out k
      have e2 := HX2.out k
      obtain ⟨X, hX⟩ : ∃ X, X = b2 l[k] := ⟨_, rfl⟩
      rw [← hX] at hx HN HH
      clear hX
      have hki : (k : Int) ≤ N := by omega
      by_cases h47 : X = 47
      · subst h47
        have HR := Lib.hid (HH.out (by simp)); clear HH HN
        go_wp2_with fail
        go_quiet (fail)
        go_wp2_with fail
        go_ret2
        exact ⟨by rw [HR.out]; rfl, bz_drewN (bz_refl _)⟩
      · have q47 : (X == 47) = false := by simpa using h47
        cases sp with
        | false =>
          have HS := Lib.hid (HN.out (by simp [h47])); clear HH HN
          go_wp2_with fail
          go_roundw
          case rel => exact ⟨k + 1, by omega, by simp, HS.out, by trivial⟩
          case measure => simp [intOf]; omega
        | true =>
          by_cases h92 : X = 92
          · subst h92
            have HR := Lib.hid (HH.out (by simp)); clear HH HN
            go_wp2_with fail
            go_quiet (fail)
            go_wp2_with fail
            go_ret2
            exact ⟨by rw [HR.out]; rfl, bz_drewN (bz_refl _)⟩
          · have q92 : (X == 92) = false := by simpa using h92
            have HS := Lib.hid (HN.out (by simp [h47, h92])); clear HH HN
            go_wp2_with fail
            go_roundw
            case rel => exact ⟨k + 1, by omega, by simp, HS.out, by trivial⟩
            case measure => simp [intOf]; omega
    · obtain rfl : k = N := by omega
      have hR := HAT.out l.length (Nat.le_refl _) (fun j hj h => hall.out j hj (by have := HSZ.out; omega)) (fun h => absurd h (Nat.lt_irrefl _))
      rw [List.take_length, List.drop_length] at hR
      have HR := Lib.hid hR; clear hR hall
      have he : (⟨#[]⟩ : ByteArray) = bs [] := rfl
      go_wp2_with fail
      go_ret2
      exact ⟨by rw [HR.out, ← HSS.out]; rfl, bz_refl _⟩
end Go.Proofs.YtjgenpooedkfmaaGreatDoor

/- authority.Port: what it answers. -/
namespace Go.Proofs.YtjgenpooedkfmaaGreatDoor
open Go.RowKit
set_option maxRecDepth 10000

theorem wh_bad : ∀ (l : Bytes) (n : Int), (∃ y ∈ l, dgt (b2 y) 10 < 0) → whGo n l = none
  | [], _, h => by obtain ⟨_, h, _⟩ := h; cases h
  | c :: t, n, h => by
    rw [whGo]
    by_cases hc : dgt (b2 c) 10 < 0
    · rw [if_pos hc]
    · rw [if_neg hc]
      refine wh_bad t _ ?_
      obtain ⟨y, hy, hd⟩ := h
      rcases List.mem_cons.mp hy with rfl | hy
      · exact absurd hd hc
      · exact ⟨y, hy, hd⟩
theorem wh_ok : ∀ (l : Bytes) (n : Int), (∀ y ∈ l, ¬ dgt (b2 y) 10 < 0) → ∃ v, whGo n l = some v
  | [], n, _ => ⟨n, rfl⟩
  | c :: t, n, h => by
    rw [whGo, if_neg (h c (by simp))]
    exact wh_ok t _ (fun y hy => h y (by simp [hy]))
abbrev apE (o : Option (Int × Bool)) : Ending := .returned (.tuple #[.int .i64 ((o.map (·.1)).getD 0), .bool ((o.map (·.2)).getD false), .bool o.isSome])
set_option maxHeartbeats 8000000 in
theorem aport_any (sch l : Bytes) (w : World) (hl : l.length ≤ 1000000) : Calls Tryz.prog 28 #[.string (bs sch), .string (bs l)] w fun e w' => e = apE (apF sch l) ∧ w' = w := by
  have hrp := fun W => rport_any sch W
  have hwh := fun W => whole_any l W hl
  obtain ⟨R, hR⟩ : ∃ R, R = apF sch l := ⟨_, rfl⟩
  rw [← hR]
  unfold apF at hR
  generalize ownF sch = O at hrp hR
  generalize bs sch = ss at *
  have HRP := Lib.hid hrp; clear hrp
  have hbad : ∀ k (hk : k < l.length), dgt (b2 l[k]) 10 < 0 → whGo 0 l = none := fun k hk h => wh_bad l 0 ⟨_, List.getElem_mem hk, h⟩
  have hgood : (∀ k (hk : k < l.length), ¬ dgt (b2 l[k]) 10 < 0) → ∃ v, whGo 0 l = some v := fun h => wh_ok l 0 (fun y hy => by
    obtain ⟨k, hk, rfl⟩ := List.getElem_of_mem hy
    exact h k hk)
  obtain ⟨s, hs⟩ : ∃ s, s = bs l := ⟨_, rfl⟩
  have hsz : s.size = l.length := by rw [hs, bs_size]
  have hby : ∀ k (hk : k < s.size) (hk2 : k < l.length), ((s[k]'hk).toNat : Int) = b2 l[k] := fun k hk hk2 => str_at hs hk hk2
  have hemp : (s.toList = []) ↔ l = [] := by rw [hs, toList_bs]
  rw [← hs] at hwh ⊢
  clear hs
  obtain ⟨N, hN⟩ : ∃ N, N = s.size := ⟨_, rfl⟩
  have hsN : s.size = N := hN.symm
  have hNm : N ≤ 1000000 := by omega
  have HBY := Lib.hid hby; clear hby
  have HSZ := Lib.hid hsz; clear hsz hl hN
  by_cases hnil : l = []
  · rw [if_pos hnil] at hR
    have he := hemp.mpr hnil
    have he1 : s.toList.isEmpty = true := by simpa using he
    have HR := Lib.hid hR
    clear hemp hR hbad hgood hwh
    go_enter Tryz.func28, Tryz.ntmps28
    go_wp2_with fail
    go_ret3
    exact ⟨by rw [HR.out]; rfl, rfl⟩
  · rw [if_neg hnil] at hR
    have he : ¬ s.toList = [] := fun h => hnil (hemp.mp h)
    have he1 : s.toList.isEmpty = false := by simpa using he
    have hwf : wholeF l = whGo 0 l := by unfold wholeF; rw [if_neg hnil]
    rw [hwf] at hR hwh
    clear hemp hwf hnil
    have HBAD := Lib.hid hbad; clear hbad
    have HGOOD := Lib.hid hgood; clear hgood
    have HWH := Lib.hid hwh; clear hwh
    have HR := Lib.hid hR; clear hR
    go_enter Tryz.func28, Tryz.ntmps28
    go_wp2_with fail
    go_loopw [7] (fun iv wr => ∃ k : Nat, k ≤ N ∧ iv = .int .i64 k ∧ Hid (∀ j (hj : j < l.length), j < k → 0 ≤ dgt (b2 l[j]) 10) ∧ w = wr) (fun i _ => N - (intOf i).toNat)
    case atStart => exact ⟨0, by omega, by simp, (fun j hj h => absurd h (Nat.not_lt_zero j)), rfl⟩
    case round =>
      obtain ⟨k, hk, rfl, hall, rfl⟩ := hrel
      by_cases hlt : k < N
      · have hku : k < s.size := by omega
        have hkl : k < l.length := by have := HSZ.out; omega
        have hx := HBY.out k hku hkl
        have hr := b2_lt l[k]
        have hda := fun W => digitA_any (b2 l[k]) 10 W hr (by omega)
        have hbad := HBAD.out k hkl
        have hnext : 0 ≤ dgt (b2 l[k]) 10 → ∀ j (hj : j < l.length), j < k + 1 → 0 ≤ dgt (b2 l[j]) 10 := fun h j hj h1 => by
          rcases Nat.lt_or_ge j k with h2 | h2
          · exact hall.out j hj h2
          · obtain rfl : j = k := by omega
            exact h
        have HN := Lib.hid hnext; clear hnext
        obtain ⟨D, hD⟩ : ∃ D, D = dgt (b2 l[k]) 10 := ⟨_, rfl⟩
        rw [← hD] at hda hbad HN
        clear hD
        generalize b2 l[k] = X at hx hr hda
        have HDA := Lib.hid hda; clear hda hall
        by_cases hD0 : D < 0
        · have hb := hbad hD0
          have hR := HR.out
          rw [hb] at hR
          have HR2 := Lib.hid (show R = none from hR); clear hR hb hbad HN
          go_wp2_with (first | (go_at_call 51; refine (HDA.out _).mono ?_; rintro e w2 ⟨rfl, rfl⟩) | fail)
          go_ret3
          exact ⟨by rw [HR2.out]; rfl, rfl⟩
        · have HS := Lib.hid (HN.out (by omega)); clear hbad HN
          go_wp2_with (first | (go_at_call 51; refine (HDA.out _).mono ?_; rintro e w2 ⟨rfl, rfl⟩) | fail)
          go_roundw
          case rel => exact ⟨k + 1, by omega, by simp, HS.out, by trivial⟩
          case measure => simp [intOf]; omega
      · obtain rfl : k = N := by omega
        obtain ⟨v, hv⟩ := HGOOD.out (fun j hj => by have := hall.out j hj (by have := HSZ.out; omega); omega)
        have hR := HR.out
        have hwh := HWH.out
        rw [hv] at hR hwh
        replace hwh : ∀ W, Calls Tryz.prog 52 #[.string s] W fun e w' => e = .returned (.tuple #[.int .i64 v, .bool true]) ∧ w' = W := hwh
        have HW := Lib.hid hwh; clear hwh hall hv HWH
        dsimp only at hR
        by_cases hbig : 65535 < v
        · rw [if_pos hbig] at hR
          have HR2 := Lib.hid hR; clear hR
          go_wp2_with (first | (go_at_call 52; refine (HW.out _).mono ?_; rintro e w2 ⟨rfl, hw2⟩; subst hw2) | fail)
          go_ret3
          exact ⟨by rw [HR2.out]; rfl, rfl⟩
        · rw [if_neg hbig] at hR
          cases O with
          | none =>
            rw [if_neg (by simp)] at hR
            have HR2 := Lib.hid hR; clear hR
            have HRP2 := Lib.hid (show ∀ W, Calls Tryz.prog 20 #[.string ss] W fun e w' => e = .returned (.tuple #[.int .i64 0, .bool false]) ∧ w' = W from HRP.out)
            go_wp2_with (first
              | (go_at_call 52; refine (HW.out _).mono ?_; rintro e w2 ⟨rfl, hw2⟩; subst hw2)
              | (go_at_call 20; refine (HRP2.out _).mono ?_; rintro e w2 ⟨rfl, hw2⟩; subst hw2)
              | fail)
            go_ret3
            exact ⟨by rw [HR2.out]; rfl, rfl⟩
          | some o =>
            have HRP2 := Lib.hid (show ∀ W, Calls Tryz.prog 20 #[.string ss] W fun e w' => e = .returned (.tuple #[.int .i64 o, .bool true]) ∧ w' = W from HRP.out)
            by_cases ho : o = v
            · rw [if_pos (by rw [ho])] at hR
              have HR2 := Lib.hid hR; clear hR
              have hov : (o == v) = true := by simpa using ho
              go_wp2_with (first
                | (go_at_call 52; refine (HW.out _).mono ?_; rintro e w2 ⟨rfl, hw2⟩; subst hw2)
                | (go_at_call 20; refine (HRP2.out _).mono ?_; rintro e w2 ⟨rfl, hw2⟩; subst hw2)
                | fail)
              go_ret3
              exact ⟨by rw [HR2.out]; rfl, rfl⟩
            · rw [if_neg (fun h => ho (Option.some.inj h))] at hR
              have HR2 := Lib.hid hR; clear hR
              have hov : (o == v) = false := by simpa using ho
              go_wp2_with (first
                | (go_at_call 52; refine (HW.out _).mono ?_; rintro e w2 ⟨rfl, hw2⟩; subst hw2)
                | (go_at_call 20; refine (HRP2.out _).mono ?_; rintro e w2 ⟨rfl, hw2⟩; subst hw2)
                | fail)
              go_ret3
              exact ⟨by rw [HR2.out]; rfl, rfl⟩
end Go.Proofs.YtjgenpooedkfmaaGreatDoor

/- authority.Parse: what it answers. -/
namespace Go.Proofs.YtjgenpooedkfmaaGreatDoor
open Go.RowKit
set_option maxRecDepth 10000

/-! parting -/
theorem lcut1 (c : UInt8) (s : Bytes) : Lib.cut s [c] = cut1 c s := by
  by_cases h : c ∈ s
  · obtain ⟨p, r, e, hp, hc⟩ := lcut_yes h
    rw [hc, e, cut1_split p r hp]
  · rw [lcut_no h, cut1_none h]
theorem cutF1 : ∀ s : Bytes, cutF s = ((cut1 58 s).1, (cut1 58 s).2.1)
  | [] => rfl
  | x :: t => by
    rw [cutF, cut1, cutF1 t]
    split <;> rfl
theorem at_last (s : Bytes) : (Lib.lastIndexByte (bs s) 64 = -1 ∧ atF s = none) ∨ ∃ i : Nat, i < s.length ∧ Lib.lastIndexByte (bs s) 64 = i ∧ atF s = some (s.take i, s.drop (i + 1)) := by
  have e64 : ∀ j (hj : j < s.length), ((((bs s).data[j]!).toNat : Int) = 64) ↔ s[j] = 64 := by
    intro j hj
    have e : (bs s).data[j]! = s[j] := by
      show s.toArray[j]! = _
      simp [hj]
    rw [e]
    exact ⟨fun h => b2_inj (by show b2 s[j] = b2 64; exact h.trans (by decide)), fun h => by rw [h]; decide⟩
  rcases Lib.lastIndexByte_spec (bs s) 64 with ⟨h1, h2⟩ | ⟨i, h1, h2, h3, h4⟩
  · refine .inl ⟨h1, at_none fun hm => ?_⟩
    obtain ⟨j, hj, he⟩ := List.getElem_of_mem hm
    exact h2 j (by rw [bs_size]; exact hj) ((e64 j hj).mpr he)
  · rw [bs_size] at h1
    refine .inr ⟨i, h1, h2, ?_⟩
    have hs : s = s.take i ++ 64 :: s.drop (i + 1) := by
      conv => lhs; rw [← List.take_append_drop i s, List.drop_eq_getElem_cons h1, (e64 i h1).mp h3]
    have hn : (64 : UInt8) ∉ s.drop (i + 1) := fun hm => by
      obtain ⟨j, hj, he⟩ := List.getElem_of_mem hm
      rw [List.length_drop] at hj
      rw [List.getElem_drop] at he
      exact h4 (i + 1 + j) (by omega) (by rw [bs_size]; omega) ((e64 (i + 1 + j) (by omega)).mpr he)
    conv => lhs; rw [hs]
    exact at_split _ hn
/-! cells -/
def athCells (a : Ath) : List Value := [S a.user, S a.pass] ++ hstCells a.host ++ [.bool a.hasPort, .int .i64 a.port]
abbrev aCells (a : Ath) : Array Value := (athCells a).toArray
abbrev athE (o : Option Ath) : Ending := .returned (.tuple #[.agg (aCells (o.getD A0)), .bool o.isSome])
theorem allA (w : World) : (Instr.alloc 29 true (Value.tuple #[])).run Tryz.prog w = .ok (.pointer (some ⟨w.heap.size, 0, none⟩)) (w.alloc (.cells (aCells A0) 29)) := by kernel_rfl
theorem bldA0 : ∀ w, (Instr.build 29 #[]).run Tryz.prog w = .ok (.agg (aCells A0)) w := fun w => by kernel_rfl
theorem ath_info : (Tryz.prog.info? 29).map (·.size) = some 15 := by kernel_rfl
theorem one_info : (Tryz.prog.info? 9).map (·.size) = some 1 ∧ (Tryz.prog.info? 3).map (·.size) = some 1 ∧ (Tryz.prog.info? 4).map (·.size) = some 1 := by refine ⟨?_, ?_, ?_⟩ <;> kernel_rfl
theorem ath_len {a : Ath} (h : a.host.six.length = 8) : (athCells a).length = 15 := by simp [athCells, hstCells, h]
theorem ath_size {a : Ath} (h : a.host.six.length = 8) : (aCells a).size = 15 := by rw [List.size_toArray, ath_len h]
theorem hst_one {h : Hst} : ∀ v ∈ hstCells h, v.oneCell' = true := by
  intro v hv
  simp only [hstCells, List.mem_cons, List.mem_map] at hv
  rcases hv with e | e | e | ⟨_, _, e⟩ <;> first | (rw [e]; rfl) | (rw [← e]; rfl)
theorem ath_one {a : Ath} : ∀ v ∈ athCells a, v.oneCell' = true := by
  intro v hv
  simp only [athCells, List.mem_append, List.mem_cons, List.not_mem_nil, or_false] at hv
  rcases hv with ((e | e) | e) | e | e
  · rw [e]; rfl
  · rw [e]; rfl
  · exact hst_one v e
  · rw [e]; rfl
  · rw [e]; rfl
theorem ath_user (a : Ath) (x : Bytes) : (aCells a).setIfInBounds 0 (S x) = aCells { a with user := x } := rfl
theorem ath_pass (a : Ath) (x : Bytes) : (aCells a).setIfInBounds 1 (S x) = aCells { a with pass := x } := rfl
theorem putC_mid : ∀ (new pre old post : List Value), old.length = new.length → putC (pre ++ old ++ post).toArray pre.length new = (pre ++ new ++ post).toArray
  | [], pre, old, post, h => by
    obtain rfl : old = [] := List.eq_nil_of_length_eq_zero h
    rfl
  | v :: r, pre, old, post, h => by
    cases old with
    | nil => cases h
    | cons x t =>
      rw [putC]
      have e : (pre ++ x :: t ++ post).toArray.setIfInBounds pre.length v = ((pre ++ [v]) ++ t ++ post).toArray := by simp
      rw [e]
      have := putC_mid r (pre ++ [v]) t post (by simpa using h)
      rw [List.length_append] at this
      simp only [List.length_cons, List.length_nil, Nat.zero_add] at this
      rw [this]
      simp
theorem putC_whole (old new : List Value) (h : old.length = new.length) : putC old.toArray 0 new = new.toArray := by
  have := putC_mid new [] old [] h
  simpa using this
theorem ath_host (a : Ath) (h : Hst) (h8 : h.six.length = 8) (g8 : a.host.six.length = 8) : putC (aCells a) 2 (hstCells h) = aCells { a with host := h } :=
  putC_mid (hstCells h) [S a.user, S a.pass] (hstCells a.host) [.bool a.hasPort, .int .i64 a.port] (by simp [hstCells, h8, g8])
theorem ath_port (a : Ath) (n : Int) (a8 : a.host.six.length = 8) : (aCells a).setIfInBounds 14 (.int .i64 n) = aCells { a with port := n } := by
  obtain ⟨u, p, ⟨k, nm, f, six⟩, hp, po⟩ := a
  simp only at a8
  obtain ⟨b1, b2, b3, b4, b5, b6, b7, b8, rfl⟩ := eight a8
  rfl
theorem ath_has (a : Ath) (b : Bool) (a8 : a.host.six.length = 8) : (aCells a).setIfInBounds 13 (.bool b) = aCells { a with hasPort := b } := by
  obtain ⟨u, p, ⟨k, nm, f, six⟩, hp, po⟩ := a
  simp only at a8
  obtain ⟨b1, b2, b3, b4, b5, b6, b7, b8, rfl⟩ := eight a8
  rfl
end Go.Proofs.YtjgenpooedkfmaaGreatDoor

/- authority.Parse: its walk. -/
namespace Go.Proofs.YtjgenpooedkfmaaGreatDoor
open Go.RowKit
set_option maxRecDepth 10000

/-- who is named, and the rest -/
def stF (l : Bytes) : Option (Bytes × Bytes × Bytes) := match atF l with
  | none => some (l, [], [])
  | some (who, rest) => if rest = [] then none else some (rest, pcB 5 (cutF who).1, pcB 5 (cutF who).2)
theorem auth_st (sch l : Bytes) : authF sch l = match stF l with | none => none | some (s, u, p) => restF sch s u p := by
  unfold authF stF
  cases atF l with
  | none => rfl
  | some v =>
    obtain ⟨a, b⟩ := v
    dsimp only
    split <;> rfl
/-- name and port -/
def nqF (s : Bytes) : Option (Bytes × Bytes) := match colN false s with
  | none => some (s, [])
  | some k => if s.take k = [] then none else some (s.take k, s.drop (k + 1))
theorem rest_nq (sch s u p : Bytes) : restF sch s u p = match nqF s with | none => none | some (n, q) => finF sch n q u p := by
  unfold restF nqF
  rw [col_n]
  cases colN false s with
  | none => rfl
  | some k =>
    simp only [Option.map_some]
    split <;> rfl
theorem ares {tmps : Array Value} {w w2 : World} {b : Nat} {a : Ath} {q : Bool} (h2 : tmps.getD 4 undef = .pointer (some ⟨b, 0, none⟩)) (h3 : tmps.getD 5 undef = .bool q) (i : OB w b 29 (aCells a) w2) (a8 : a.host.six.length = 8) {R : Option Ath} (hR : a = R.getD A0) (hq : q = R.isSome) :
    bodyPost Tryz.prog Tryz.f10 (fun e w' => e = athE R ∧ Below w.heap.size w w') Exit.ret { tmps := tmps, defers := [] } w2 := by
  have h2' : tmps[4]?.getD undef = .pointer (some ⟨b, 0, none⟩) := by simpa using h2
  have h3' : tmps[5]?.getD undef = .bool q := by simpa using h3
  have hl := i.load (P := Tryz.prog) 29 _ Tryz.underlying29 rfl (by rw [ath_size a8]; exact ath_info)
  refine bodyPost_ret (v := .tuple #[.agg (aCells a), .bool q]) ?_ rfl ⟨by rw [hR, hq], i.bel⟩
  simp [results, Tryz.results10, asAddr, h2', h3', hl]
/-- a whole Auth is stored -/
theorem putA {ops : Array Oper} {rest : List Oper} {o : Oper} {a : Act} {w : World} {Q : Exit → Act → World → Prop} (hgd : o.guard = none) (x y : Operand) (ho : o.op = .store 29 x y) (w0 : World) (b : Nat) (a0 a1 : Ath) (i : OB w0 b 29 (aCells a0) w)
    (h0 : a0.host.six.length = 8) (h1 : a1.host.six.length = 8) (hx : a.eval x = .pointer (some ⟨b, 0, none⟩)) (hy : a.eval y = .agg (aCells a1))
    (K : ∀ w', OB w0 b 29 (aCells a1) w' → wpList Tryz.prog ops Q rest (a.put o.dst undef) w') : wpList Tryz.prog ops Q (o :: rest) a w :=
  putN hgd 29 x y ho w0 b 29 (aCells a0) i 0 (athCells a1) hx hy (by rw [ath_size h0, ath_len h1]; exact Nat.le_refl _) (by rw [ath_len h1]; exact ath_info) ath_one (aCells a1) (putC_whole _ _ (by rw [ath_len h0, ath_len h1])) K
theorem nq_len {s n q : Bytes} (h : nqF s = some (n, q)) : n.length ≤ s.length ∧ q.length ≤ s.length := by
  unfold nqF at h
  split at h
  · injection h with h
    injection h with h1 h2
    subst h1; subst h2
    simp
  · split at h
    · cases h
    · injection h with h
      injection h with h1 h2
      subst h1; subst h2
      rw [List.length_take, List.length_drop]
      omega
theorem st_len {l s u p : Bytes} (h : stF l = some (s, u, p)) : s.length ≤ l.length := by
  unfold stF at h
  rcases at_last l with ⟨_, e⟩ | ⟨i, hi, _, e⟩
  · rw [e] at h
    injection h with h
    injection h with h1 h2
    rw [h1]; exact Nat.le_refl _
  · rw [e] at h
    dsimp only at h
    split at h
    · cases h
    · injection h with h
      injection h with h1 h2
      rw [← h1, List.length_drop]; omega
set_option maxHeartbeats 20000000 in
theorem aparse_gen (sch l : Bytes) (w : World) (hl : l.length ≤ 300000) (hS : ∀ s u p n q, stF l = some (s, u, p) → nqF s = some (n, q) → Short n) (hE : Env w) : Calls Tryz.prog 10 #[.string (bs sch), .string (bs l)] w fun e w' => e = athE (authF sch l) ∧ Below w.heap.size w w' := by
  obtain ⟨R, hR⟩ : ∃ R, R = authF sch l := ⟨_, rfl⟩
  rw [← hR]
  rw [auth_st] at hR
  have HR := Lib.hid hR; clear hR
  have HSH := Lib.hid hS; clear hS
  have hlib := fun W => Any.strings_LastIndexByte Tryz.laysLib (bs l) 64 (by rw [bs_size]; omega) W
  have hla := at_last l
  obtain ⟨I, hI⟩ : ∃ I, I = Lib.lastIndexByte (bs l) 64 := ⟨_, rfl⟩
  have hlib2 : ∀ W, Calls Tryz.prog 29 #[.string (bs l), .int .u8 64] W fun e w' => e = .returned (.int .i64 I) ∧ w' = W := by rw [hI]; exact hlib
  rw [← hI] at hla
  have HLIB := Lib.hid hlib2; clear hlib2 hlib hI
  have hsp := fun W => special_any sch W
  have hpo := fun q W (hq : q.length ≤ 1000000) => aport_any sch q W hq
  obtain ⟨ss, hss⟩ : ∃ ss, ss = bs sch := ⟨_, rfl⟩
  rw [← hss] at hsp hpo ⊢
  clear hss
  have HSP := Lib.hid hsp; clear hsp
  have HPO := Lib.hid hpo; clear hpo
  obtain ⟨s, hs⟩ : ∃ s, s = bs l := ⟨_, rfl⟩
  have hsz : s.size = l.length := by rw [hs, bs_size]
  have hx1 : ∀ k, s.extract 0 k = bs (l.take k) := fun k => by rw [hs, bs_extract, List.drop_zero, Nat.sub_zero]
  have hx2 : ∀ k, s.extract k s.size = bs (l.drop k) := fun k => by rw [hs, bs_extract, bs_size, List.take_of_length_le (by rw [List.length_drop]; omega)]
  have HS := Lib.hid hs
  rw [← hs] at HLIB ⊢
  clear hs
  obtain ⟨N, hN⟩ : ∃ N, N = s.size := ⟨_, rfl⟩
  have hsN : s.size = N := hN.symm
  rw [hsN] at hx2
  have hNm : N ≤ 300000 := by omega
  have hNl : N = l.length := by omega
  have HX1 := Lib.hid hx1; clear hx1
  have HX2 := Lib.hid hx2; clear hx2
  have HLA := Lib.hid hla; clear hla
  have HE := Lib.hid hE; clear hE
  have HNL := Lib.hid hNl
  have HL := Lib.hid hl
  clear hsz hl hN hNl
  go_enter Tryz.func10, Tryz.ntmps10
  go_upto_if 19 with (first
    | (refine alloc_to rfl 29 rfl _ _ (allA _) ?_)
    | (go_at_call 29; refine (HLIB.out _).mono ?_; rintro e w2 ⟨rfl, hw2⟩; subst hw2)
    | fail)
  have h4 := OB.fresh w 29 (aCells A0)
  obtain ⟨w1, hw1⟩ : ∃ w1, w1 = w.alloc (.cells (aCells A0) 29) := ⟨_, rfl⟩
  rw [← hw1] at h4 ⊢
  have hz1 : w1.heap.size = w.heap.size + 1 := by rw [hw1]; simp
  have h6 := OB.fresh w1 29 (aCells A0)
  rw [hz1] at h6
  have H4 := Lib.hid h4; clear h4
  clear hw1
  obtain ⟨w2, hw2⟩ : ∃ w2, w2 = w1.alloc (.cells (aCells A0) 29) := ⟨_, rfl⟩
  rw [← hw2] at h6 ⊢
  clear hw2
  have H6 := Lib.hid h6; clear h6
  have HZ := Lib.hid hz1; clear hz1
  go_cut [1] (fun sv wx => ∃ s2 u p, stF l = some (s2, u, p) ∧ sv = .string (bs s2) ∧ Hid (OB w1 (w.heap.size + 1) 29 (aCells { A0 with user := u, pass := p }) wx))
  case first =>
    rcases HLA.out with ⟨e1, e2⟩ | ⟨i, hi, e1, e2⟩
    · subst e1
      have hst : stF l = some (l, [], []) := by unfold stF; rw [e2]
      have HST := Lib.hid hst; clear hst e2 HLA
      go_wp2_with fail
      go_meet
      case rel => exact ⟨l, [], [], HST.out, by rw [HS.out], H6.out⟩
    · subst e1
      have e3 := HX1.out i
      have e4 := HX2.out (i + 1)
      have hst : stF l = if l.drop (i + 1) = [] then none else some (l.drop (i + 1), pcB 5 (cutF (l.take i)).1, pcB 5 (cutF (l.take i)).2) := by unfold stF; rw [e2]
      have hcu := fun W (hW : Below w.heap.size w W) => scut_any (l.take i) [58] W (by rw [List.length_take]; have := HL.out; omega) (HE.out.below hW)
      rw [lcut1] at hcu
      rw [cutF1] at hst
      have hlen : (cut1 58 (l.take i)).1.length ≤ 300000 ∧ (cut1 58 (l.take i)).2.1.length ≤ 300000 := by
        have h := congrArg List.length (cut1_is 58 (l.take i))
        have hq : (cut1 58 (l.take i)).2.2 = false → (cut1 58 (l.take i)).2.1 = [] := cut1_flag 58 _
        rw [List.length_append] at h
        have := HL.out
        by_cases hf : (cut1 58 (l.take i)).2.2 = true
        · rw [if_pos hf, List.length_cons, List.length_take] at h
          omega
        · rw [if_neg hf, List.length_nil, List.length_take] at h
          rw [hq (by simpa using hf)]
          simp only [List.length_nil]
          omega
      have hin : i + 1 ≤ N := by have := HNL.out; omega
      generalize cut1 58 (l.take i) = C at hcu hst hlen
      obtain ⟨c1, c2, c3⟩ := C
      simp only at hst hlen hcu
      have hp1 := fun W => pencode_any 5 c1 W (by omega)
      have hp2 := fun W => pencode_any 5 c2 W (by omega)
      generalize l.take i = who at e3 hcu
      obtain ⟨r, hr⟩ : ∃ r, r = bs (l.drop (i + 1)) := ⟨_, rfl⟩
      have hre : r.toList = [] ↔ l.drop (i + 1) = [] := by rw [hr, toList_bs]
      rw [← hr] at e4
      have HRR := Lib.hid hr; clear hr
      generalize l.drop (i + 1) = rest at hst hre HRR
      generalize pcB 5 c1 = u at hst hp1
      generalize pcB 5 c2 = p at hst hp2
      obtain ⟨k1, hk1⟩ : ∃ k1, k1 = bs c1 := ⟨_, rfl⟩
      obtain ⟨k2, hk2⟩ : ∃ k2, k2 = bs c2 := ⟨_, rfl⟩
      have hcu2 : ∀ W, Below w.heap.size w W → Calls Tryz.prog 30 #[.string (bs who), .string ⟨#[58]⟩] W fun e w' => e = .returned (.tuple #[.string k1, .string k2, .bool c3]) ∧ Below W.heap.size W w' := by rw [hk1, hk2]; exact hcu
      rw [← hk1] at hp1
      rw [← hk2] at hp2
      clear hk1 hk2 hcu hlen
      generalize bs who = wh at e3 hcu2
      have HCU := Lib.hid hcu2; clear hcu2
      have HP1 := Lib.hid hp1; clear hp1
      have HP2 := Lib.hid hp2; clear hp2
      have HST := Lib.hid hst; clear hst e2 HLA
      have hn : ((i : Int) + 1) = ((i + 1 : Nat) : Int) := by omega
      have hwr : IntKind.i64.wrap ((i : Int) + 1) = ((i + 1 : Nat) : Int) := by rw [hn]; exact IntWalk.i64_in _ (by omega)
      have hin2 : (((i + 1 : Nat) : Int)) ≤ N := by omega
      have hii : (i : Int) ≤ N := by omega
      generalize i + 1 = i1 at e4 hwr hin hin2
      clear hn
      have HBW := Lib.hid (show ∀ W, Below w1.heap.size w1 W → Below w.heap.size w W from fun W hW => stp H4.out.bel hW)
      go_upto_region 5 with (first
        | (go_at_call 30; refine (HCU.out _ (HBW.out _ H6.out.bel)).mono ?_; rintro e w3 ⟨rfl, hb3⟩; have H63 := Lib.hid (H6.out.below hb3); clear hb3)
        | fail)
      clear H6 HCU
      go_upto_region 6 with (first
        | (go_at_call 19; refine (HP1.out _).mono ?_; rintro e w4 ⟨rfl, hb4⟩; have H64 := Lib.hid (H63.out.below hb4); clear hb4)
        | (refine put1 rfl 9 (.tmp 30) (.tmp 29) rfl w1 (w.heap.size + 1) 29 (aCells A0) H64.out 0 (S u) rfl rfl (by rw [ath_size rfl]; decide) one_info.1 rfl (aCells { A0 with user := u }) (ath_user A0 u) ?_; intro w5 i5 _ _; have H65 := Lib.hid i5; clear i5)
        | fail)
      clear H63 H64 HP1
      go_upto_region 7 with (first
        | (go_at_call 19; refine (HP2.out _).mono ?_; rintro e w6 ⟨rfl, hb6⟩; have H66 := Lib.hid (H65.out.below hb6); clear hb6)
        | (refine put1 rfl 9 (.tmp 33) (.tmp 32) rfl w1 (w.heap.size + 1) 29 (aCells { A0 with user := u }) H66.out 1 (S p) rfl rfl (by rw [ath_size rfl]; decide) one_info.1 rfl (aCells { A0 with user := u, pass := p }) (ath_pass { A0 with user := u } p) ?_; intro w7 i7 _ _; have H67 := Lib.hid i7; clear i7)
        | fail)
      clear H65 H66 HP2
      by_cases hrn : rest = []
      · have hst := HST.out
        rw [if_pos hrn] at hst
        have he := hre.mpr hrn
        have he1 : r.toList.isEmpty = true := by rw [he]; rfl
        have hR := HR.out
        rw [hst] at hR
        have HRN := Lib.hid (show R = none from hR)
        have H47 := Lib.hid (H4.out.below (H67.out.bel))
        clear hst hR hre
        go_wp2_with (first
          | (refine build_to rfl 29 #[] rfl (.agg (aCells A0)) #[] rfl bldA0 ?_)
          | (refine putA rfl (.tmp 4) (.tmp 40) rfl w w.heap.size A0 A0 H47.out rfl rfl rfl rfl ?_; intro w8 i8; have H48 := Lib.hid i8; clear i8)
          | fail)
        exact ares rfl rfl H48.out rfl (by rw [HRN.out]; rfl) (by rw [HRN.out]; rfl)
      · have hst := HST.out
        rw [if_neg hrn] at hst
        have he : ¬ r.toList = [] := fun h => hrn (hre.mp h)
        have he1 : r.toList.isEmpty = false := by simpa using he
        have HSS := Lib.hid hst
        clear hst hre
        go_wp2_with fail
        go_meet
        case rel => exact ⟨rest, u, p, HSS.out, by rw [HRR.out], H67.out⟩
  case rest =>
    obtain ⟨s2, u, p, hst, rfl, h6⟩ := hcut
    clear H6 HLA HX1 HX2 HLIB HS HNL hNm hsN
    have hl2 := st_len hst
    have HST0 := Lib.hid hst
    have hR := HR.out
    rw [hst] at hR
    replace hR : R = restF sch s2 u p := hR
    have hl3 : s2.length ≤ 300000 := by have := HL.out; omega
    rw [rest_nq] at hR
    have hco := fun W => colon_any s2 W (by omega)
    have hnq : nqF s2 = match colN false s2 with | none => some (s2, []) | some k => if s2.take k = [] then none else some (s2.take k, s2.drop (k + 1)) := rfl
    have hnl := fun n q (h : nqF s2 = some (n, q)) => nq_len h
    have hcl := fun k (h : colN false s2 = some k) => colN_lt false s2 k h
    obtain ⟨C, hC⟩ : ∃ C, C = colN false s2 := ⟨_, rfl⟩
    rw [← hC] at hnq hco hcl
    clear hC
    have HNQ := Lib.hid hnq; clear hnq
    have HNL := Lib.hid hnl; clear hnl
    have HCL := Lib.hid hcl; clear hcl
    have HRR := Lib.hid hR; clear hR hst HR
    have H6 := Lib.hid h6; clear h6
    have HL3 := Lib.hid hl3; clear hl3 hl2
    obtain ⟨s, hs⟩ : ∃ s, s = bs s2 := ⟨_, rfl⟩
    have hsz : s.size = s2.length := by rw [hs, bs_size]
    have hx1 : ∀ k, s.extract 0 k = bs (s2.take k) := fun k => by rw [hs, bs_extract, List.drop_zero, Nat.sub_zero]
    have hx2 : ∀ k, s.extract k s.size = bs (s2.drop k) := fun k => by rw [hs, bs_extract, bs_size, List.take_of_length_le (by rw [List.length_drop]; omega)]
    have HS := Lib.hid hs
    rw [← hs] at hco ⊢
    have HCO := Lib.hid hco; clear hco hs
    obtain ⟨N, hN⟩ : ∃ N, N = s.size := ⟨_, rfl⟩
    have hsN : s.size = N := hN.symm
    rw [hsN] at hx2
    have hNm : N ≤ 300000 := by have := HL3.out; omega
    have hNl : N = s2.length := by omega
    have HX1 := Lib.hid hx1; clear hx1
    have HX2 := Lib.hid hx2; clear hx2
    have HNN := Lib.hid hNl; clear hNl hN hsz
    go_upto_if 45 with (first
      | (go_at_call 31; refine (HCO.out _).mono ?_; rintro e w3 ⟨rfl, hw3⟩; subst hw3)
      | fail)
    go_cut [11, 12] (fun nv pv wx => ∃ n q, nqF s2 = some (n, q) ∧ nv = .string (bs n) ∧ pv = .string (bs q) ∧ Hid (OB w1 (w.heap.size + 1) 29 (aCells { A0 with user := u, pass := p }) wx))
    case first =>
      cases C with
      | none =>
        have HQ := Lib.hid (show nqF s2 = some (s2, []) from HNQ.out)
        have hm1 : ¬ (0 : Int) ≤ -1 := by omega
        simp only [posI]
        go_wp2_with fail
        go_meet
        case rel => exact ⟨s2, [], HQ.out, by rw [HS.out], rfl, H6.out⟩
      | some k =>
        have hlt := HCL.out k rfl
        have hnq : nqF s2 = if s2.take k = [] then none else some (s2.take k, s2.drop (k + 1)) := HNQ.out
        have e3 := HX1.out k
        have e4 := HX2.out (k + 1)
        have hn : ((k : Int) + 1) = ((k + 1 : Nat) : Int) := by omega
        have hkN : k + 1 ≤ N := by have := HNN.out; omega
        have hwr : IntKind.i64.wrap ((k : Int) + 1) = ((k + 1 : Nat) : Int) := by rw [hn]; exact IntWalk.i64_in _ (by omega)
        have hin2 : (((k + 1 : Nat) : Int)) ≤ N := by omega
        have hii : (k : Int) ≤ N := by omega
        obtain ⟨nm, hnm⟩ : ∃ nm, nm = bs (s2.take k) := ⟨_, rfl⟩
        obtain ⟨qq, hqq⟩ : ∃ qq, qq = bs (s2.drop (k + 1)) := ⟨_, rfl⟩
        have hre : nm.toList = [] ↔ s2.take k = [] := by rw [hnm, toList_bs]
        rw [← hnm] at e3
        rw [← hqq] at e4
        have HNM := Lib.hid hnm; clear hnm
        have HQQ := Lib.hid hqq; clear hqq
        generalize s2.take k = n at hnq hre HNM
        generalize s2.drop (k + 1) = q at hnq HQQ
        generalize k + 1 = k1 at e4 hwr hin2 hkN
        clear hn hlt
        have HNQ2 := Lib.hid hnq; clear hnq
        simp only [posI]
        by_cases hrn : n = []
        · have hst := HNQ2.out
          rw [if_pos hrn] at hst
          have he := hre.mpr hrn
          have he1 : nm.toList.isEmpty = true := by rw [he]; rfl
          have hR := HRR.out
          rw [hst] at hR
          have HRN := Lib.hid (show R = none from hR)
          clear hst hR hre
          go_wp2_with fail
          go_quiet (fail)
          have H62 := Lib.hid (H6.out.below (bz_drewN (n := nq) (bz_refl _)))
          have H47 := Lib.hid (H4.out.below (H62.out.bel))
          go_wp2_with (first
            | (refine build_to rfl 29 #[] rfl (.agg (aCells A0)) #[] rfl bldA0 ?_)
            | (refine putA rfl (.tmp 4) (.tmp 55) rfl w w.heap.size A0 A0 H47.out rfl rfl rfl rfl ?_; intro w8 i8; have H48 := Lib.hid i8; clear i8)
            | fail)
          exact ares rfl rfl H48.out rfl (by rw [HRN.out]; rfl) (by rw [HRN.out]; rfl)
        · have hst := HNQ2.out
          rw [if_neg hrn] at hst
          have he : ¬ nm.toList = [] := fun h => hrn (hre.mp h)
          have he1 : nm.toList.isEmpty = false := by simpa using he
          have HSS := Lib.hid hst
          clear hst hre
          go_wp2_with fail
          go_quiet (fail)
          have H62 := Lib.hid (H6.out.below (bz_drewN (n := nq) (bz_refl _)))
          go_wp2_with fail
          go_meet
          case rel => exact ⟨n, q, HSS.out, by rw [HNM.out], by rw [HQQ.out], H62.out⟩
    case rest =>
      obtain ⟨n, q, hst, rfl, rfl, h6⟩ := hcut
      clear H6 HNQ HCL HX1 HX2 HCO HS HNN hNm hsN
      have hnl := HNL.out n q hst
      have hR := HRR.out
      rw [hst] at hR
      replace hR : R = finF sch n q u p := hR
      have hl3 : n.length ≤ 300000 ∧ q.length ≤ 300000 := by have := HL3.out; omega
      have hho := fun W (hW : Below w.heap.size w W) => hparse_any n (spF sch) W (HSH.out s2 u p n q HST0.out hst) (HE.out.below hW)
      have hpo := fun W => HPO.out q W (by omega)
      unfold finF at hR
      have h8 := fun g (h : hostP n (spF sch) = some g) => (hkind_ok (hkind h)).l
      generalize spF sch = SP at *
      obtain ⟨HO, hHO⟩ : ∃ HO, HO = hostP n SP := ⟨_, rfl⟩
      obtain ⟨PO, hPO⟩ : ∃ PO, PO = apF sch q := ⟨_, rfl⟩
      rw [← hHO] at hR hho h8
      rw [← hPO] at hR hpo
      clear hHO hPO hst HNL HRR HPO hnl hl3 HL3
      obtain ⟨nb, hnb⟩ : ∃ nb, nb = bs n := ⟨_, rfl⟩
      obtain ⟨qb, hqb⟩ : ∃ qb, qb = bs q := ⟨_, rfl⟩
      rw [← hnb] at hho ⊢
      rw [← hqb] at hpo ⊢
      clear hnb hqb
      have HBW := Lib.hid (show ∀ W, Below w1.heap.size w1 W → Below w.heap.size w W from fun W hW => stp H4.out.bel hW)
      have HP := Lib.hid hpo; clear hpo
      have H6 := Lib.hid h6; clear h6
      cases HO with
      | none =>
        have HH := Lib.hid (show ∀ W, Below w.heap.size w W → Calls Tryz.prog 32 #[.string nb, .bool SP] W fun e w' => e = .returned (.tuple #[.agg (hCells H0), .bool false]) ∧ Below W.heap.size W w' from hho)
        have HR := Lib.hid (show R = none from hR)
        clear hho hR h8
        go_upto_region 17 with (first
          | (go_at_call 12; refine (HSP.out _).mono ?_; rintro e w3 ⟨rfl, hw3⟩; subst hw3)
          | (go_at_call 32; refine (HH.out _ (HBW.out _ H6.out.bel)).mono ?_; rintro e w4 ⟨rfl, hb4⟩; have H64 := Lib.hid (H6.out.below hb4); clear hb4)
          | (refine alloc_to rfl 27 rfl _ _ (allH _) ?_)
          | (refine storeH rfl (.tmp 14) (.tmp 61) rfl H0 rfl rfl rfl rfl ?_; intro W2 hh hb; have HHB := Lib.hid hh; have H65 := Lib.hid (H64.out.below hb); clear hh hb)
          | fail)
        have H47 := Lib.hid (H4.out.below (H65.out.bel))
        go_wp2_with (first
          | (refine build_to rfl 29 #[] rfl (.agg (aCells A0)) #[] rfl bldA0 ?_)
          | (refine putA rfl (.tmp 4) (.tmp 65) rfl w w.heap.size A0 A0 H47.out rfl rfl rfl rfl ?_; intro w8 i8; have H48 := Lib.hid i8; clear i8)
          | fail)
        exact ares rfl rfl H48.out rfl (by rw [HR.out]; rfl) (by rw [HR.out]; rfl)
      | some g =>
        have HH := Lib.hid (show ∀ W, Below w.heap.size w W → Calls Tryz.prog 32 #[.string nb, .bool SP] W fun e w' => e = .returned (.tuple #[.agg (hCells g), .bool true]) ∧ Below W.heap.size W w' from hho)
        have G8 := Lib.hid (h8 g rfl)
        clear hho h8
        dsimp only at hR
        go_upto_region 17 with (first
          | (go_at_call 12; refine (HSP.out _).mono ?_; rintro e w3 ⟨rfl, hw3⟩; subst hw3)
          | (go_at_call 32; refine (HH.out _ (HBW.out _ H6.out.bel)).mono ?_; rintro e w4 ⟨rfl, hb4⟩; have H64 := Lib.hid (H6.out.below hb4); clear hb4)
          | (refine alloc_to rfl 27 rfl _ _ (allH _) ?_)
          | (refine storeH rfl (.tmp 14) (.tmp 61) rfl g G8.out rfl rfl rfl ?_; intro W2 hh hb; have HHB := Lib.hid hh; have H65 := Lib.hid (H64.out.below hb); clear hh hb)
          | fail)
        clear H6 H64
        go_upto_region 20 with (first
          | (refine loadH (by rfl) (.tmp 14) rfl _ g HHB.out rfl ?_)
          | (refine putN rfl 27 (.tmp 67) (.tmp 66) rfl w1 (w.heap.size + 1) 29 (aCells { A0 with user := u, pass := p }) H65.out 2 (hstCells g) rfl rfl (by rw [ath_size rfl]; simp [hstCells, G8.out]) (by rw [host_info]; simp [hstCells, G8.out]) hst_one (aCells { A0 with user := u, pass := p, host := g }) (ath_host { A0 with user := u, pass := p } g G8.out rfl) ?_; intro w5 i5; have H66 := Lib.hid i5; clear i5)
          | fail)
        clear H65 HHB
        cases PO with
        | none =>
          have HP := Lib.hid (show ∀ W, Calls Tryz.prog 28 #[.string ss, .string qb] W fun e w' => e = .returned (.tuple #[.int .i64 0, .bool false, .bool false]) ∧ w' = W from HP.out)
          have HR := Lib.hid (show R = none from hR)
          clear hR
          go_upto_region 21 with (first
            | (go_at_call 28; refine (HP.out _).mono ?_; rintro e w6 ⟨rfl, hw6⟩; subst hw6)
            | (refine put1 rfl 3 (.tmp 75) (.tmp 72) rfl w1 (w.heap.size + 1) 29 (aCells { A0 with user := u, pass := p, host := g }) H66.out 14 (.int .i64 0) rfl rfl (by rw [ath_size G8.out]; decide) one_info.2.1 rfl (aCells { A0 with user := u, pass := p, host := g, port := 0 }) (ath_port { A0 with user := u, pass := p, host := g } 0 G8.out) ?_; intro w7 i7 _ _; have H67 := Lib.hid i7; clear i7)
            | (refine put1 rfl 4 (.tmp 76) (.tmp 73) rfl w1 (w.heap.size + 1) 29 (aCells { A0 with user := u, pass := p, host := g, port := 0 }) H67.out 13 (.bool false) rfl rfl (by rw [ath_size G8.out]; decide) one_info.2.2 rfl (aCells { A0 with user := u, pass := p, host := g, port := 0, hasPort := false }) (ath_has { A0 with user := u, pass := p, host := g, port := 0 } false G8.out) ?_; intro w8 i8 _ _; have H68 := Lib.hid i8; clear i8)
            | fail)
          have H47 := Lib.hid (H4.out.below (H68.out.bel))
          go_wp2_with (first
            | (refine build_to rfl 29 #[] rfl (.agg (aCells A0)) #[] rfl bldA0 ?_)
            | (refine putA rfl (.tmp 4) (.tmp 79) rfl w w.heap.size A0 A0 H47.out rfl rfl rfl rfl ?_; intro w8 i8; have H48 := Lib.hid i8; clear i8)
            | fail)
          exact ares rfl rfl H48.out rfl (by rw [HR.out]; rfl) (by rw [HR.out]; rfl)
        | some v =>
          obtain ⟨v, b⟩ := v
          have HP := Lib.hid (show ∀ W, Calls Tryz.prog 28 #[.string ss, .string qb] W fun e w' => e = .returned (.tuple #[.int .i64 v, .bool b, .bool true]) ∧ w' = W from HP.out)
          have HR := Lib.hid (show R = some { A0 with user := u, pass := p, host := g, port := v, hasPort := b } from hR)
          clear hR
          go_upto_region 21 with (first
            | (go_at_call 28; refine (HP.out _).mono ?_; rintro e w6 ⟨rfl, hw6⟩; subst hw6)
            | (refine put1 rfl 3 (.tmp 75) (.tmp 72) rfl w1 (w.heap.size + 1) 29 (aCells { A0 with user := u, pass := p, host := g }) H66.out 14 (.int .i64 v) rfl rfl (by rw [ath_size G8.out]; decide) one_info.2.1 rfl (aCells { A0 with user := u, pass := p, host := g, port := v }) (ath_port { A0 with user := u, pass := p, host := g } v G8.out) ?_; intro w7 i7 _ _; have H67 := Lib.hid i7; clear i7)
            | (refine put1 rfl 4 (.tmp 76) (.tmp 73) rfl w1 (w.heap.size + 1) 29 (aCells { A0 with user := u, pass := p, host := g, port := v }) H67.out 13 (.bool b) rfl rfl (by rw [ath_size G8.out]; decide) one_info.2.2 rfl (aCells { A0 with user := u, pass := p, host := g, port := v, hasPort := b }) (ath_has { A0 with user := u, pass := p, host := g, port := v } b G8.out) ?_; intro w8 i8 _ _; have H68 := Lib.hid i8; clear i8)
            | fail)
          obtain ⟨A1, hA1⟩ : ∃ A1 : Ath, A1 = { A0 with user := u, pass := p, host := g, port := v, hasPort := b } := ⟨_, rfl⟩
          have h18 : A1.host.six.length = 8 := by rw [hA1]; exact G8.out
          rw [← hA1] at H68
          have HR2 := Lib.hid (show R = some A1 by rw [hA1]; exact HR.out)
          clear hA1 HR
          have H18 := Lib.hid h18; clear h18
          have H47 := Lib.hid (H4.out.below (H68.out.bel))
          go_wp2_with (first
            | (refine getN rfl 29 (.tmp 6) rfl w1 (w.heap.size + 1) 29 (aCells A1) H68.out _ rfl Tryz.underlying29 rfl (by rw [ath_size H18.out]; exact ath_info) ?_)
            | (refine putA rfl (.tmp 4) (.tmp 80) rfl w w.heap.size A0 A1 H47.out rfl H18.out rfl rfl ?_; intro w8 i8; have H48 := Lib.hid i8; clear i8)
            | fail)
          exact ares rfl rfl H48.out H18.out (by rw [HR2.out]; rfl) (by rw [HR2.out]; rfl)
theorem aparse_any (sch l : Bytes) (w : World) (hl : l.length ≤ 1000) (hE : Env w) : Calls Tryz.prog 10 #[.string (bs sch), .string (bs l)] w fun e w' => e = athE (authF sch l) ∧ Below w.heap.size w w' :=
  aparse_gen sch l w (by omega) (fun s u p n q h1 h2 => short_of (by have := st_len h1; have := (nq_len h2).1; omega)) hE
end Go.Proofs.YtjgenpooedkfmaaGreatDoor

/- Kit of the walks of layer 15's statements: structs in blocks, compared. -/
namespace Go.Proofs.YtjgenpooedkfmaaGreatDoor
open Go.RowKit
set_option maxRecDepth 10000

/-- cells of type T in a block -/
structure CB (W : World) (b : Nat) (T : TypeId) (cs : Array Value) : Prop where
  a : W.heap[b]? = some (.cells cs T (0, 0))
section
variable {W W' : World} {b : Nat} {T : TypeId} {cs : Array Value}
theorem CB.lt (i : CB W b T cs) : b < W.heap.size := (Array.getElem?_eq_some_iff.1 i.a).1
theorem CB.keep (i : CB W b T cs) (hb : Below W.heap.size W W') : CB W' b T cs := ⟨(hb.block b i.lt).trans i.a⟩
theorem CB.new (W : World) (T : TypeId) (cs : Array Value) : CB (W.alloc (.cells cs T)) W.heap.size T cs := ⟨heap_alloc_new W _⟩
theorem CB.cell (i : CB W b T cs) (j : Nat) : W.cell? ⟨b, j, none⟩ = cs[j]? := by simp [World.cell?, i.a]
theorem CB.cell_is (i : CB W b T cs) {j : Nat} {v : Value} (h : cs[j]? = some v) : W.cell? ⟨b, j, none⟩ = some v := (i.cell j).trans h
theorem CB.range (i : CB W b T cs) {o : Nat} {vs : List Value} (h : ∀ j v, vs[j]? = some v → cs[o + j]? = some v) : W.rangeAt b o vs := fun j v hj => i.cell_is (h j v hj)
theorem CB.load {P : Program} (i : CB W b T cs) (ty : TypeId) (d : TypeDesc) (hu : P.underlying ty = some d) (hd : (match d with | .struct _ | .array _ _ => true | _ => false) = true) (hi : (P.info? ty).map (·.size) = some cs.size) : (loadVar ty ⟨b, 0, none⟩).run P W = .ok (.agg cs) W :=
  run_loadVar_row (P := P) W b T ty cs (0, 0) d i.a hu hd hi
end
section
variable {P : Program} {ops : Array Oper} {rest : List Oper} {o : Oper} {a : Act} {w : World} {Q : Exit → Act → World → Prop}
/-- a store of a whole into the block that has just been made -/
theorem storeC {W : World} (hg : o.guard = none) (T : TypeId) (x y : Operand) (ho : o.op = .store T x y) (cs old : Array Value) (hi : (P.info? T).map (·.size) = some cs.size) (hold : old.size = cs.size) (h1 : cs.all (·.oneCell') = true)
    (hW : W = w.alloc (.cells old T)) (hx : a.eval x = .pointer (some ⟨w.heap.size, 0, none⟩)) (hy : a.eval y = .agg cs)
    (k : ∀ w', CB w' w.heap.size T cs → Below w.heap.size w w' → wpList P ops Q rest (a.put o.dst undef) w') : wpList P ops Q (o :: rest) a W := by
  subst hW
  exact store_new hg T x y ho cs old T hx hy hi hold h1 (k _ (CB.new w T cs) ((Below.refl _ _).alloc (Nat.le_refl _) _))
theorem loadC_exec (T : TypeId) (x : Operand) (ho : o.op = .load T x) (b : Nat) (cs : Array Value) (d : TypeDesc) (hu : P.underlying T = some d) (hd : (match d with | .struct _ | .array _ _ => true | _ => false) = true) (hi : (P.info? T).map (·.size) = some cs.size)
    (hx : a.eval x = .pointer (some ⟨b, 0, none⟩)) (i : CB w b T cs) : (execOp a.eval o).run P w = .ok (.value (.agg cs)) w := by
  have e := i.load (P := P) T d hu hd hi
  unfold execOp
  simp only [ho, hx, Instr.loadAt, Instr.sureAddr, Sem.run_bind, Sem.run_pure, Result.andThen_ok, e]
end
/-- two hosts are the same, in a struct -/
theorem hst_eqIn (h : Hst) (hl : h.six.length = 8) (D : Nat) (w : World) : (Op.equalIn (D + 3) 27 (.agg (hCells h)) (.agg (hCells h))).run Tryz.prog w = .ok true w := by
  obtain ⟨k, n, f, six⟩ := h
  simp only at hl
  obtain ⟨a, b, c, d, e, g, i, j, rfl⟩ := eight hl
  have hS : Tryz.prog.underlying 27 = some (.struct (Tryz.prog.fieldsOf 27)) := by kernel_rfl
  have hp : Tryz.prog.stoodInHeld 27 = false := by kernel_rfl
  have hc : hCells ⟨k, n, f, [a, b, c, d, e, g, i, j]⟩ = #[.int .i64 k, .string (bs n), .int .u32 f, .int .u16 a, .int .u16 b, .int .u16 c, .int .u16 d, .int .u16 e, .int .u16 g, .int .u16 i, .int .u16 j] := rfl
  have h6 := fun W => six_eq a b c d e g i j D W
  rw [hc, run_equalIn_agg w (D + 2) 27 _ _ hS hp]
  simp only [Program.fieldsOf, Tryz.underlying27]
  clear hc
  go_simp
/-- who is asked, and where: the same -/
theorem ath_eq (x : Ath) (hl : x.host.six.length = 8) (w : World) : (binOp .eql 29 (.agg (aCells x)) (.agg (aCells x))).run Tryz.prog w = .ok (.bool true) w := by
  obtain ⟨us, ps, ⟨k, n, f, six⟩, hp, po⟩ := x
  simp only at hl
  obtain ⟨a, b, c, d, e, g, i, j, rfl⟩ := eight hl
  have hS : Tryz.prog.underlying 29 = some (.struct (Tryz.prog.fieldsOf 29)) := by kernel_rfl
  have hq : Tryz.prog.stoodInHeld 29 = false := by kernel_rfl
  have hc : aCells ⟨us, ps, ⟨k, n, f, [a, b, c, d, e, g, i, j]⟩, hp, po⟩ = #[.string (bs us), .string (bs ps), .int .i64 k, .string (bs n), .int .u32 f, .int .u16 a, .int .u16 b, .int .u16 c, .int .u16 d, .int .u16 e, .int .u16 g, .int .u16 i, .int .u16 j, .bool hp, .int .i64 po] := rfl
  have h6 : ∀ W, (Op.equalIn 9999 27 (.agg #[.int .i64 k, .string (bs n), .int .u32 f, .int .u16 a, .int .u16 b, .int .u16 c, .int .u16 d, .int .u16 e, .int .u16 g, .int .u16 i, .int .u16 j]) (.agg #[.int .i64 k, .string (bs n), .int .u32 f, .int .u16 a, .int .u16 b, .int .u16 c, .int .u16 d, .int .u16 e, .int .u16 g, .int .u16 i, .int .u16 j])).run Tryz.prog W = .ok true W := fun W => hst_eqIn ⟨k, n, f, [a, b, c, d, e, g, i, j]⟩ rfl 9996 W
  rw [hc, run_eql_struct, show (10000 : Nat) = 9999 + 1 from rfl, run_equalIn_agg w 9999 29 _ _ hS hq]
  simp only [Program.fieldsOf, Tryz.underlying29]
  clear hc
  go_simp
section
variable {ops : Array Oper} {rest : List Oper} {o : Oper} {a : Act} {w : World} {Q : Exit → Act → World → Prop}
theorem eqA_exec (x y : Operand) (ho : o.op = .binOp .eql 29 x y 29) (h : Ath) (hl : h.host.six.length = 8) (hx : a.eval x = .agg (aCells h)) (hy : a.eval y = .agg (aCells h)) : (execOp a.eval o).run Tryz.prog w = .ok (.value (.bool true)) w := by
  have e := ath_eq h hl w
  have g := run_eqGuard_agg (P := Tryz.prog) w .eql 29 x y (aCells h) (aCells h) (by kernel_rfl)
  unfold execOp
  simp only [ho, hx, hy, Sem.run_bind, Sem.run_pure, Result.andThen_ok, e, g]
theorem eqA (hg : Region.wanted o (yielded ops a.tmps) = true) (x y : Operand) (ho : o.op = .binOp .eql 29 x y 29) (h : Ath) (hl : h.host.six.length = 8) (hx : a.eval x = .agg (aCells h)) (hy : a.eval y = .agg (aCells h))
    (k : wpList Tryz.prog ops Q rest (a.put o.dst (.bool true)) w) : wpList Tryz.prog ops Q (o :: rest) a w := val_w hg (.bool true) (eqA_exec x y ho h hl hx hy) k
theorem bldA (hg : Region.wanted o (yielded ops a.tmps) = true) (parts : Array (Nat × Operand)) (ho : o.op = .build 29 parts) (xs : Array (Nat × Value)) (h : Ath) (hx : parts.map (fun (i, x) => (i, a.eval x)) = xs) (hr : ∀ w, (Instr.build 29 xs).run Tryz.prog w = .ok (.agg (aCells h)) w)
    (k : wpList Tryz.prog ops Q rest (a.put o.dst (.agg (aCells h))) w) : wpList Tryz.prog ops Q (o :: rest) a w := build_w hg _ parts ho _ xs hx hr k
/-- an Auth is stored into the block that has just been made -/
theorem storeA {W : World} (hg : o.guard = none) (x y : Operand) (ho : o.op = .store 29 x y) (h : Ath) (hl : h.host.six.length = 8) (hW : W = w.alloc (.cells (aCells A0) 29)) (hx : a.eval x = .pointer (some ⟨w.heap.size, 0, none⟩)) (hy : a.eval y = .agg (aCells h))
    (k : ∀ w', CB w' w.heap.size 29 (aCells h) → Below w.heap.size w w' → wpList Tryz.prog ops Q rest (a.put o.dst undef) w') : wpList Tryz.prog ops Q (o :: rest) a W :=
  storeC hg _ x y ho (aCells h) (aCells A0) (by rw [ath_size hl]; exact ath_info) (by rw [ath_size hl]; rfl) (all_oneCell_toArray ath_one) hW hx hy k
theorem loadA_exec (x : Operand) (ho : o.op = .load 29 x) (b : Nat) (h : Ath) (hl : h.host.six.length = 8) (hx : a.eval x = .pointer (some ⟨b, 0, none⟩)) (i : CB w b 29 (aCells h)) : (execOp a.eval o).run Tryz.prog w = .ok (.value (.agg (aCells h))) w :=
  loadC_exec _ x ho b (aCells h) _ Tryz.underlying29 rfl (by rw [ath_size hl]; exact ath_info) hx i
theorem loadA (hg : Region.wanted o (yielded ops a.tmps) = true) (x : Operand) (ho : o.op = .load 29 x) (b : Nat) (h : Ath) (hl : h.host.six.length = 8) (hx : a.eval x = .pointer (some ⟨b, 0, none⟩)) (i : CB w b 29 (aCells h)) (k : wpList Tryz.prog ops Q rest (a.put o.dst (.agg (aCells h))) w) : wpList Tryz.prog ops Q (o :: rest) a w :=
  val_w hg _ (loadA_exec x ho b h hl hx i) k
end
/-- authority.Parse of small texts -/
theorem ap_small (c s : ByteArray) (hs : s.size ≤ 1000) {w W : World} (hE : Env w) (hb : Below w.heap.size w W) : Calls Tryz.prog 10 #[.string c, .string s] W fun e w' => e = athE (authF (ls c) (ls s)) ∧ Below W.heap.size W w' := by
  have hp := aparse_any (ls c) (ls s) W (by rw [ls_length]; omega) (hE.below hb)
  rw [bs_ls, bs_ls] at hp
  exact hp
theorem sa_T (c s : ByteArray) (A : Ath) (h : authF (ls c) (ls s) = some A) (hs : s.size ≤ 300) (W : World) (hE : Env W) : Calls Tryz.prog 10 #[.string c, .string s] W fun e w' => e = .returned (.tuple #[.agg (aCells A), .bool true]) ∧ Below W.heap.size W w' := by
  have hp := ap_small c s (by omega) hE (Below.refl _ W)
  rw [h] at hp
  exact hp
theorem sa_N (c s : ByteArray) (h : authF (ls c) (ls s) = none) (hs : s.size ≤ 300) (W : World) (hE : Env W) : Calls Tryz.prog 10 #[.string c, .string s] W fun e w' => e = .returned (.tuple #[.agg (aCells A0), .bool false]) ∧ Below W.heap.size W w' := by
  have hp := ap_small c s (by omega) hE (Below.refl _ W)
  rw [h] at hp
  exact hp
end Go.Proofs.YtjgenpooedkfmaaGreatDoor

/- Addresses in blocks of the call's own: their cells, one by one. -/
namespace Go.Proofs.YtjgenpooedkfmaaGreatDoor
open Go.RowKit
set_option maxRecDepth 10000

abbrev uCells (pv : Value) (u : Url) : Array Value := (urlCells pv u).toArray
abbrev nilV : Value := .slice none 0 0
theorem u_info : (Tryz.prog.info? 37).map (·.size) = some 23 := by kernel_rfl
theorem u_len {pv : Value} {u : Url} (h : u.host.six.length = 8) : (urlCells pv u).length = 23 := by simp [urlCells, hstCells, h]
theorem u_size {pv : Value} {u : Url} (h : u.host.six.length = 8) : (uCells pv u).size = 23 := by rw [List.size_toArray, u_len h]
theorem u_one {pv : Value} {u : Url} (h1 : pv.oneCell' = true) : ∀ v ∈ urlCells pv u, v.oneCell' = true := by
  intro v hv
  simp only [urlCells, List.mem_append, List.mem_cons, List.not_mem_nil, or_false] at hv
  rcases hv with ((e | e | e) | e) | e | e | e | e | e | e | e | e | e
  all_goals first | exact hst_one v e | (rw [e]; first | rfl | exact h1)
theorem allUrl (w : World) : (Instr.alloc 37 true (Value.tuple #[])).run Tryz.prog w = .ok (.pointer (some ⟨w.heap.size, 0, none⟩)) (w.alloc (.cells (uCells nilV U0) 37)) := by kernel_rfl
section
variable {ops : Array Oper} {rest : List Oper} {o : Oper} {a : Act} {w : World} {Q : Exit → Act → World → Prop}
/-- an address is stored into the block that has just been made -/
theorem storeUrl {W : World} (hg : o.guard = none) (x y : Operand) (ho : o.op = .store 37 x y) (pv : Value) (u : Url) (hl : u.host.six.length = 8) (h1 : pv.oneCell' = true) (hW : W = w.alloc (.cells (uCells nilV U0) 37)) (hx : a.eval x = .pointer (some ⟨w.heap.size, 0, none⟩)) (hy : a.eval y = .agg (uCells pv u))
    (k : ∀ w', CB w' w.heap.size 37 (uCells pv u) → Below w.heap.size w w' → wpList Tryz.prog ops Q rest (a.put o.dst undef) w') : wpList Tryz.prog ops Q (o :: rest) a W :=
  storeC hg _ x y ho (uCells pv u) (uCells nilV U0) (by rw [u_size hl]; exact u_info) (by rw [u_size hl]; rfl) (all_oneCell_toArray (u_one h1)) hW hx hy k
theorem loadUrl_exec (x : Operand) (ho : o.op = .load 37 x) (b : Nat) (pv : Value) (u : Url) (hl : u.host.six.length = 8) (hx : a.eval x = .pointer (some ⟨b, 0, none⟩)) (i : CB w b 37 (uCells pv u)) : (execOp a.eval o).run Tryz.prog w = .ok (.value (.agg (uCells pv u))) w :=
  loadC_exec _ x ho b (uCells pv u) _ Tryz.underlying37 rfl (by rw [u_size hl]; exact u_info) hx i
theorem loadUrl (hg : Region.wanted o (yielded ops a.tmps) = true) (x : Operand) (ho : o.op = .load 37 x) (b : Nat) (pv : Value) (u : Url) (hl : u.host.six.length = 8) (hx : a.eval x = .pointer (some ⟨b, 0, none⟩)) (i : CB w b 37 (uCells pv u)) (k : wpList Tryz.prog ops Q rest (a.put o.dst (.agg (uCells pv u))) w) : wpList Tryz.prog ops Q (o :: rest) a w :=
  val_w hg _ (loadUrl_exec x ho b pv u hl hx i) k
end
end Go.Proofs.YtjgenpooedkfmaaGreatDoor

/- The small case that each statement of layer 15 begins with (written by genAthL.py). -/
namespace Go.Proofs.YtjgenpooedkfmaaGreatDoor
open Go.RowKit
set_option maxRecDepth 10000

def p1 : Ath := { A0 with user := [97, 37, 52, 48, 98], pass := [99, 37, 51, 65, 100], host := { H0 with kind := 2, name := [101, 120, 46, 99, 111, 109] } }
def p2 : Ath := { A0 with host := { H0 with kind := 4, six := [0, 0, 0, 0, 0, 0, 0, 1] }, hasPort := true, port := 7 }
def p4 : Ath := { A0 with host := { H0 with kind := 1 } }
def p1h : Hst := { H0 with kind := 2, name := [101, 120, 46, 99, 111, 109] }
theorem pq1 : authF (ls ⟨#[104, 116, 116, 112]⟩) (ls ⟨#[97, 64, 98, 58, 99, 58, 100, 64, 69, 88, 46, 99, 111, 109, 58, 48, 48, 56, 48]⟩) = some p1 := by kernel_rfl
theorem pq2 : authF (ls ⟨#[120]⟩) (ls ⟨#[91, 58, 58, 49, 93, 58, 55]⟩) = some p2 := by kernel_rfl
theorem pq3 : authF (ls ⟨#[120]⟩) (ls ⟨#[117, 64]⟩) = none := by kernel_rfl
theorem pq4 : authF (ls ⟨#[120]⟩) (ls ⟨#[]⟩) = some p4 := by kernel_rfl
theorem pq5 : authF (ls ⟨#[104, 116, 116, 112]⟩) (ls ⟨#[]⟩) = none := by kernel_rfl
theorem pq6 : authF (ls ⟨#[120]⟩) (ls ⟨#[58, 55]⟩) = none := by kernel_rfl
theorem pq7 : authF (ls ⟨#[104, 116, 116, 112]⟩) (ls ⟨#[97, 58, 54, 53, 53, 51, 54]⟩) = none := by kernel_rfl
theorem pc1 : acutF true (ls ⟨#[97, 92, 98, 47, 99]⟩) = ([97], [92, 98, 47, 99]) := by kernel_rfl
theorem pc2 : acutF false (ls ⟨#[97, 92, 98]⟩) = ([97, 92, 98], []) := by kernel_rfl
theorem pp1 : apF (ls ⟨#[119, 115]⟩) (ls ⟨#[56, 48]⟩) = some (0, false) := by kernel_rfl
theorem pp2 : apF (ls ⟨#[119, 115]⟩) (ls ⟨#[48, 48]⟩) = some (0, true) := by kernel_rfl
theorem bp1h : ∀ w, (Instr.build 27 #[(0, .int .i64 2), (1, .string ⟨#[101, 120, 46, 99, 111, 109]⟩)]).run Tryz.prog w = .ok (.agg (hCells p1h)) w := fun w => by kernel_rfl
theorem bp1 : ∀ w, (Instr.build 29 #[(0, .string ⟨#[97, 37, 52, 48, 98]⟩), (1, .string ⟨#[99, 37, 51, 65, 100]⟩), (2, .agg (hCells p1h))]).run Tryz.prog w = .ok (.agg (aCells p1)) w := fun w => by kernel_rfl
theorem cut_1 (W : World) : Calls Tryz.prog 27 #[.string ⟨#[97, 92, 98, 47, 99]⟩, .bool true] W fun e w' => e = .returned (.tuple #[.string ⟨#[97]⟩, .string ⟨#[92, 98, 47, 99]⟩]) ∧ Below W.heap.size W w' := by
  have h := acut_any (ls ⟨#[97, 92, 98, 47, 99]⟩) true W (by rw [ls_length]; decide)
  rw [pc1, bs_ls] at h
  exact h
theorem cut_2 (W : World) : Calls Tryz.prog 27 #[.string ⟨#[97, 92, 98]⟩, .bool false] W fun e w' => e = .returned (.tuple #[.string ⟨#[97, 92, 98]⟩, .string ⟨#[]⟩]) ∧ Below W.heap.size W w' := by
  have h := acut_any (ls ⟨#[97, 92, 98]⟩) false W (by rw [ls_length]; decide)
  rw [pc2, bs_ls] at h
  exact h
theorem port_1 (W : World) : Calls Tryz.prog 28 #[.string ⟨#[119, 115]⟩, .string ⟨#[56, 48]⟩] W fun e w' => e = .returned (.tuple #[.int .i64 0, .bool false, .bool true]) ∧ w' = W := by
  have h := aport_any (ls ⟨#[119, 115]⟩) (ls ⟨#[56, 48]⟩) W (by rw [ls_length]; decide)
  rw [pp1, bs_ls, bs_ls] at h
  exact h
theorem port_2 (W : World) : Calls Tryz.prog 28 #[.string ⟨#[119, 115]⟩, .string ⟨#[48, 48]⟩] W fun e w' => e = .returned (.tuple #[.int .i64 0, .bool true, .bool true]) ∧ w' = W := by
  have h := aport_any (ls ⟨#[119, 115]⟩) (ls ⟨#[48, 48]⟩) W (by rw [ls_length]; decide)
  rw [pp2, bs_ls, bs_ls] at h
  exact h
set_option maxHeartbeats 40000000 in
theorem small15_any (w : World) (hE : Env w) : Calls Tryz.prog 9 #[] w fun e w' => e = .returned (.bool true) ∧ Below w.heap.size w w' := by
  have HE := Lib.hid hE
  have HB0 := Lib.hid (Below.refl w.heap.size w)
  clear hE
  go_enter Tryz.func9, Tryz.ntmps9
  go_upto_region 2 with (first
    | (refine alloc_to rfl 29 rfl _ _ (allA _) ?_)
    | (go_at_call 10; refine (sa_T _ _ p1 pq1 (by decide) _ (HE.out.below HB0.out)).mono ?_; rintro e w1 ⟨rfl, hb⟩; have HC1 := Lib.hid hb; clear hb)
    | (refine storeA rfl (.tmp 1) (.tmp 27) rfl p1 rfl rfl rfl rfl ?_; intro W1 hh hb; have HH1 := Lib.hid hh; have HS1 := Lib.hid (stp HC1.out hb); have HB1 := Lib.hid (stp HB0.out HS1.out); clear hh hb HC1)
    | fail)
  go_upto_region 3 with (first
    | (refine alloc_to rfl 29 rfl _ _ (allA _) ?_)
    | (go_at_call 10; refine (sa_T _ _ p2 pq2 (by decide) _ (HE.out.below HB1.out)).mono ?_; rintro e w2 ⟨rfl, hb⟩; have HC2 := Lib.hid hb; clear hb)
    | (refine storeA rfl (.tmp 3) (.tmp 31) rfl p2 rfl rfl rfl rfl ?_; intro W2 hh hb; have HH2 := Lib.hid hh; have HS2 := Lib.hid (stp HC2.out hb); have HB2 := Lib.hid (stp HB1.out HS2.out); clear hh hb HC2)
    | fail)
  go_upto_region 4 with (first
    | (refine alloc_to rfl 29 rfl _ _ (allA _) ?_)
    | (go_at_call 10; refine (sa_N _ _ pq3 (by decide) _ (HE.out.below HB2.out)).mono ?_; rintro e w3 ⟨rfl, hb⟩; have HC3 := Lib.hid hb; clear hb)
    | (refine storeA rfl (.tmp 5) (.tmp 35) rfl A0 rfl rfl rfl rfl ?_; intro W3 hh hb; have HH3 := Lib.hid hh; have HS3 := Lib.hid (stp HC3.out hb); have HB3 := Lib.hid (stp HB2.out HS3.out); clear hh hb HC3)
    | fail)
  go_upto_region 5 with (first
    | (refine alloc_to rfl 29 rfl _ _ (allA _) ?_)
    | (go_at_call 10; refine (sa_T _ _ p4 pq4 (by decide) _ (HE.out.below HB3.out)).mono ?_; rintro e w4 ⟨rfl, hb⟩; have HC4 := Lib.hid hb; clear hb)
    | (refine storeA rfl (.tmp 7) (.tmp 39) rfl p4 rfl rfl rfl rfl ?_; intro W4 hh hb; have HH4 := Lib.hid hh; have HS4 := Lib.hid (stp HC4.out hb); have HB4 := Lib.hid (stp HB3.out HS4.out); clear hh hb HC4)
    | fail)
  go_upto_region 6 with (first
    | (refine alloc_to rfl 29 rfl _ _ (allA _) ?_)
    | (go_at_call 10; refine (sa_N _ _ pq5 (by decide) _ (HE.out.below HB4.out)).mono ?_; rintro e w5 ⟨rfl, hb⟩; have HC5 := Lib.hid hb; clear hb)
    | (refine storeA rfl (.tmp 9) (.tmp 43) rfl A0 rfl rfl rfl rfl ?_; intro W5 hh hb; have HH5 := Lib.hid hh; have HS5 := Lib.hid (stp HC5.out hb); have HB5 := Lib.hid (stp HB4.out HS5.out); clear hh hb HC5)
    | fail)
  go_upto_region 7 with (first
    | (refine alloc_to rfl 29 rfl _ _ (allA _) ?_)
    | (go_at_call 10; refine (sa_N _ _ pq6 (by decide) _ (HE.out.below HB5.out)).mono ?_; rintro e w6 ⟨rfl, hb⟩; have HC6 := Lib.hid hb; clear hb)
    | (refine storeA rfl (.tmp 11) (.tmp 47) rfl A0 rfl rfl rfl rfl ?_; intro W6 hh hb; have HH6 := Lib.hid hh; have HS6 := Lib.hid (stp HC6.out hb); have HB6 := Lib.hid (stp HB5.out HS6.out); clear hh hb HC6)
    | fail)
  go_upto_region 8 with (first
    | (refine alloc_to rfl 29 rfl _ _ (allA _) ?_)
    | (go_at_call 10; refine (sa_N _ _ pq7 (by decide) _ (HE.out.below HB6.out)).mono ?_; rintro e w7 ⟨rfl, hb⟩; have HC7 := Lib.hid hb; clear hb)
    | (refine storeA rfl (.tmp 13) (.tmp 51) rfl A0 rfl rfl rfl rfl ?_; intro W7 hh hb; have HH7 := Lib.hid hh; have HS7 := Lib.hid (stp HC7.out hb); have HB7 := Lib.hid (stp HB6.out HS7.out); clear hh hb HC7)
    | fail)
  go_upto_region 9 with (first | (go_at_call 27; refine (cut_1 _).mono ?_; rintro e w8 ⟨rfl, hb⟩; have HS8 := Lib.hid hb; have HB8 := Lib.hid (stp HB7.out hb); clear hb) | fail)
  go_upto_region 10 with (first | (go_at_call 27; refine (cut_2 _).mono ?_; rintro e w9 ⟨rfl, hb⟩; have HS9 := Lib.hid hb; have HB9 := Lib.hid (stp HB8.out hb); clear hb) | fail)
  go_upto_region 11 with (first | (go_at_call 28; refine (port_1 _).mono ?_; rintro e w10 ⟨rfl, hw⟩; subst hw) | fail)
  have HK1 := Lib.hid (HH1.out.keep (stp (stp (stp (stp (stp (stp (stp HS2.out HS3.out) HS4.out) HS5.out) HS6.out) HS7.out) HS8.out) HS9.out))
  have HK2 := Lib.hid (HH2.out.keep (stp (stp (stp (stp (stp (stp HS3.out HS4.out) HS5.out) HS6.out) HS7.out) HS8.out) HS9.out))
  have HK4 := Lib.hid (HH4.out.keep (stp (stp (stp (stp HS5.out HS6.out) HS7.out) HS8.out) HS9.out))
  have c2 := HK2.out.cell_is (j := 2) (v := .int .i64 4) rfl
  have c3 := HK2.out.cell_is (j := 13) (v := .bool true) rfl
  have c4 := HK2.out.cell_is (j := 14) (v := .int .i64 7) rfl
  have c5 := HK4.out.cell_is (j := 2) (v := .int .i64 1) rfl
  go_upto_region 12 with (first | (go_at_call 28; refine (port_2 _).mono ?_; rintro e w11 ⟨rfl, hw⟩; subst hw) | fail)
  refine wp_region_lit ?_
  simp only [List.append_eq, List.cons_append, List.nil_append]
  go_wp2_with (first
    | (refine loadA (by rfl) (.tmp 1) rfl _ p1 rfl rfl HK1.out ?_)
    | (refine bldH (by rfl) #[(0, .const (.int .i64 2)), (1, .const (.string ⟨#[101, 120, 46, 99, 111, 109]⟩))] rfl _ p1h (by rfl) bp1h ?_)
    | (refine bldA (by rfl) #[(0, .const (.string ⟨#[97, 37, 52, 48, 98]⟩)), (1, .const (.string ⟨#[99, 37, 51, 65, 100]⟩)), (2, .tmp 72)] rfl _ p1 (by rfl) bp1 ?_)
    | (refine eqA (by rfl) (.tmp 71) (.tmp 73) rfl p1 rfl rfl rfl ?_)
    | fail)
  go_ret
  exact ⟨ret1_bool (by simp), HB9.out⟩
end Go.Proofs.YtjgenpooedkfmaaGreatDoor
