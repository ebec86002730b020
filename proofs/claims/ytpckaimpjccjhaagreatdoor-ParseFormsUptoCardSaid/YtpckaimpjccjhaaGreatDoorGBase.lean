/- Words that all the walks of this seat share: bytes as lists, slices that read as lists, what has turned and what has not. No program stands in it. -/
import Derived.WalkKit
import Derived.WalkSpells
import Derived.WalkLawsBesides
import Derived.Laws.IdiomStrings
import Derived.Lib.AppendStr
import Derived.Lib.UnsafeStr
import Derived.Lib.Hide
import Derived.Deep.DeepMust
import Derived.Laws.BytesArg
set_option maxHeartbeats 40000000
namespace Go.Proofs.YtpckaimpjccjhaaGreatDoor
open Go.RowKit
set_option maxRecDepth 10000
abbrev Bytes := List UInt8
def ls (s : ByteArray) : Bytes := s.data.toList
def bs (l : Bytes) : ByteArray := ⟨l.toArray⟩
@[simp] theorem ls_bs (l : Bytes) : ls (bs l) = l := by simp [ls, bs]
@[simp] theorem bs_ls (s : ByteArray) : bs (ls s) = s := by simp [ls, bs]
@[simp] theorem ls_length (s : ByteArray) : (ls s).length = s.size := by unfold ls; rw [Array.length_toList]; rfl
@[simp] theorem bs_size (l : Bytes) : (bs l).size = l.length := by rw [<- ls_length, ls_bs]
theorem ls_inj {s t : ByteArray} (h : ls s = ls t) : s = t := by rw [<- bs_ls s, h, bs_ls]
theorem bs_inj {l m : Bytes} (h : bs l = bs m) : l = m := by rw [<- ls_bs l, h, ls_bs]
abbrev S (l : Bytes) : Value := .string (bs l)
theorem ret1_int {k : IntKind} {a b : Int} (h : a = b) : Ending.returned (.int k a) = .returned (.int k b) := by rw [h]
theorem ret1_bool {a b : Bool} (h : a = b) : Ending.returned (.bool a) = .returned (.bool b) := by rw [h]
theorem ret1_S {a : ByteArray} {b : Bytes} (h : ls a = b) : Ending.returned (.string a) = .returned (S b) := by rw [<- h]; simp [S]
theorem ret3_eq {k1 k2 k3 : IntKind} {a1 a2 a3 : Int} {t : Int × Int × Int} (h : t = (a1, a2, a3)) :
  Ending.returned (.tuple #[.int k1 a1, .int k2 a2, .int k3 a3]) = .returned (.tuple #[.int k1 t.1, .int k2 t.2.1, .int k3 t.2.2]) := by subst h; rfl
abbrev B8 (c : UInt8) : Value := .int .u8 c.toNat
def At (w : World) (b o : Nat) (xs : List Value) : Prop := ∀ j (h : j < xs.length), w.cell? ⟨b, o + j, none⟩ = some xs[j]
def Sl (B : Nat) (w : World) (v : Value) (xs : List Value) : Prop :=
 ∃ c, xs.length <= c ∧ c <= maxLen ∧ ((xs = [] ∧ ∃ a, v = .slice a 0 c) ∨ ∃ b o, b < B ∧ v = .slice (some ⟨b, o, none⟩) xs.length c ∧ At w b o xs)
theorem At.keep {w w' : World} {b o : Nat} {xs : List Value} (h : At w b o xs) (hk : w'.heap[b]? = w.heap[b]?) : At w' b o xs :=
 fun j hj => (World.cell?_of_block (w := w) (a := ⟨b, o + j, none⟩) hk).trans (h j hj)
theorem Sl.keep {B : Nat} {w w' : World} {v : Value} {xs : List Value} (h : Sl B w v xs) (hk : ∀ b, b < B -> w'.heap[b]? = w.heap[b]?) : Sl B w' v xs := by
 obtain ⟨c, h1, h2, h3⟩ := h
 refine ⟨c, h1, h2, ?_⟩
 rcases h3 with h3 | ⟨b, o, hb, hv, ha⟩
 ·exact .inl h3
 ·exact .inr ⟨b, o, hb, hv, ha.keep (hk b hb)⟩
theorem Sl.below {B : Nat} {w w' : World} {v : Value} {xs : List Value} (h : Sl B w v xs) (hb : Below B w w') : Sl B w' v xs := h.keep fun b h => hb.block b h
theorem Sl.more {B B' : Nat} {w : World} {v : Value} {xs : List Value} (h : Sl B w v xs) (hB : B <= B') : Sl B' w v xs := by
 obtain ⟨c, h1, h2, h3⟩ := h
 refine ⟨c, h1, h2, ?_⟩
 rcases h3 with h3 | ⟨b, o, hb, hv, ha⟩
 ·exact .inl h3
 ·exact .inr ⟨b, o, by omega, hv, ha⟩
theorem Sl.nil {B : Nat} {w : World} : Sl B w (.slice none 0 0) [] := ⟨0, by simp, by simp, .inl ⟨rfl, _, rfl⟩⟩
theorem addr_add (b o j : Nat) : (⟨b, o, none⟩ : Addr).add j = ⟨b, o + j, none⟩ := by
 unfold Addr.add
 split
 ·next h => subst h; rfl
 ·rfl
theorem Sl.of_own {w : World} {base e n : Nat} {v : Value} {xs : List Value} (h : w.ownsRow base e 1 v n xs) : Sl w.heap.size w v xs := by
 have hl := h.1
 rcases h.2 with ⟨rfl, rfl⟩ | ⟨g, cap, cur, rfl, hg, hb, hn, hm, hsz, htk⟩
 ·have : xs = [] := List.eq_nil_of_length_eq_zero (by omega)
  subst this
  exact Sl.nil
 ·refine ⟨cap, by omega, hm, .inr ⟨g, 0, ?_, by rw [hl]; simp, fun j hj => ?_⟩⟩
  ·rcases Nat.lt_or_ge g w.heap.size with hlt | hge
   ·exact hlt
   ·rw [Array.getElem?_eq_none hge] at hb; cases hb
  ·have := h.cells (g := g) rfl j xs[j] (by simp)
   rw [addr_add] at this
   exact this
theorem drewN_below {B : Nat} {a w : World} (h : Below B a w) (n : Nat) : Below B a (w.drewN n) := ⟨h.os, h.tape, h.output, h.size, h.block⟩
def lenV : Value -> Nat | .slice _ n _ => n | .string s => s.size | _ => 0
theorem bytes_new (w : World) (s : ByteArray) (c : Nat) (t : TypeId) (fr : Nat × Nat) :
  At (w.alloc (.cells (bytesRow s c) t fr)).drew w.heap.size 0 (Lib.byteCells (ls s)) ∧ Below w.heap.size w (w.alloc (.cells (bytesRow s c) t fr)).drew ∧ (w.alloc (.cells (bytesRow s c) t fr)).drew.heap.size = w.heap.size + 1 := by
 refine ⟨fun j hj => ?_, ((Below.refl _ _).alloc (Nat.le_refl _) _).drew, by simp⟩
 rw [World.cell?_drew, Nat.zero_add, World.cell?_alloc_mark]
 have hj' : j < (ls s).length := by simpa [Lib.byteCells] using hj
 have hj2 : j < s.data.size := by rw [ls_length] at hj'; exact hj'
 simp only [Lib.byteCells, ls, List.getElem_map, Array.getElem_toList]
 unfold bytesRow
 rw [Array.getElem?_append_left (by simpa using hj2), Array.getElem?_map, Array.getElem?_eq_getElem hj2]
 rfl
theorem slice_from {P : Program} {t e : TypeId} {i : TypeInfo} (ht : P.underlying t = some (.slice e)) (hi : P.info? e = some i) (hsize : i.size = 1) (b o n c : Nat) (k : Nat) (hk : k <= n) (hc : n <= c) :
  ∃ o', (k < c -> o' = o + k) ∧ ∀ W : World, (Instr.sliceAt t (.slice (some ⟨b, o, none⟩) n c) (some (.int .i64 (k : Int))) none none).run P W = .ok (.slice (some ⟨b, o', none⟩) (n - k) (c - k)) W := by
 have he : P.elem t = e := by simp [Program.elem, ht]
 have ht' : P.underlying t = some (.slice (P.elem t)) := by rw [he]; exact ht
 by_cases hcn : c = k
 ·refine ⟨o, by omega, fun W => ?_⟩
  rw [run_sliceAt_slice W t _ _ _ _ ht', run_slice_l W t _ _ _ ht' .i64 k (by omega) (by omega)]
  simp [sizeOf, typeInfo, he, hi, hsize, sliced, hcn]
 ·refine ⟨o + k, fun _ => rfl, fun W => ?_⟩
  rw [run_sliceAt_slice W t _ _ _ _ ht', run_slice_l W t _ _ _ ht' .i64 k (by omega) (by omega)]
  simp [sizeOf, typeInfo, he, hi, hsize, sliced, hcn, addr_add]
theorem slice_to {P : Program} {t e : TypeId} {i : TypeInfo} (ht : P.underlying t = some (.slice e)) (hi : P.info? e = some i) (b o n c : Nat) (k : Nat) (hk : k <= c) (W : World) :
  (Instr.sliceAt t (.slice (some ⟨b, o, none⟩) n c) none (some (.int .i64 (k : Int))) none).run P W = .ok (.slice (some ⟨b, o, none⟩) k c) W := by
 have he : P.elem t = e := by simp [Program.elem, ht]
 have ht' : P.underlying t = some (.slice (P.elem t)) := by rw [he]; exact ht
 rw [run_sliceAt_slice W t _ _ _ _ ht', run_slice_h W t _ _ _ ht' .i64 k (by omega) (by omega)]
 have e0 : (⟨b, o, none⟩ : Addr).add 0 = ⟨b, o, none⟩ := rfl
 simp [sizeOf, typeInfo, he, hi, sliced, e0]
theorem own_below {w w' : World} {base e size n : Nat} {v : Value} {xs : List Value} (h : w.ownsRow base e size v n xs) (hb : Below w.heap.size w w') : w'.ownsRow base e size v n xs :=
 h.kept (row := none) ⟨hb.os, hb.tape, hb.output, hb.size, fun k hk _ => hb.block k hk⟩ (by cases hv : v.ownBlock <;> simp)
theorem push1 {P : Program} {ops : Array Oper} {rest : List Oper} {o : Oper} {a : Act} {Q : Exit -> Act -> World -> Prop} (hgd : o.guard = none) (s x : Operand) (t : TypeId)
  (ho : o.op = .call { callee := .builtin .append, args := #[s, x], argTypes := #[t, t] })
  (base : Nat) (e : TypeId) (i : TypeInfo) (z : Value) (bytes : Nat) (ht : P.underlying t = some (.slice e)) (hi : P.info? e = some i) (hz : i.zero = some z)
  (hsize : i.size = 1) (hby : i.bytes = bytes) (hzs : z.cells.size = 1) (w : World)
  (v : Value) (n : Nat) (xs : List Value) (hs : a.eval s = v) (hown : w.ownsRow base e 1 v n xs) (u : Value) (hx : a.eval x = .slice (some ⟨w.heap.size, 0, none⟩) 1 1) (h1 : u.oneCell' = true)
  (h63 : n + 1 <= 1099511627776) (hbytes : bytes <= 64) (hbase : base <= w.heap.size)
  (h : ∀ v' w', w'.ownsRow base e 1 v' (n + 1) (xs ++ [u]) -> w.heap.size < w'.heap.size -> Below base w w' -> wpList P ops Q rest (a.put o.dst v') w') :
  wpList P ops Q (o :: rest) a (w.alloc (.cells #[u] e)) := by
 refine wpList_append_own _ hgd s x t ho base e i z 1 bytes ht hi hz hsize hby hzs (by decide) v n xs hs (hown.alloc _) ⟨w.heap.size, 0, none⟩ 1 1 [u] hx rfl ?_ ?_ ?_ ?_ ?_ ?_
 ·intro j u' hj
  match j, hj with
  | 0, hj => simp at hj; subst hj; simp [Addr.add]
 ·intro u' hu; simp at hu; subst hu; exact h1
 ·unfold maxLen; omega
 ·have : (n + 1) * bytes <= (n + 1) * 64 := Nat.mul_le_mul_left _ hbytes
  omega
 ·simp; omega
 ·intro v' w' ho' hg _
  refine h v' w' ho' ?_ (((Below.refl _ _).alloc hbase _).grown hg (by simp; omega) (fun k hk => (hown.lt k hk).1))
  have := hg.size
  simp at this
  omega
def RetRow (w : World) (e : TypeId) (xs : List Value) : Ending -> World -> Prop := fun en w' => ∃ v, en = .returned v ∧ w'.ownsRow w.heap.size e 1 v xs.length xs ∧ Below w.heap.size w w'
theorem RetRow.mk {w w' : World} {e : TypeId} {xs : List Value} {v : Value} {n : Nat} {base : Nat} (h : w'.ownsRow base e 1 v n xs) (hb : w.heap.size <= base) (hbel : Below w.heap.size w w') : RetRow w e xs (.returned v) w' := by
 refine ⟨v, rfl, ?_, hbel⟩
 have h1 := h.1
 have : n = xs.length := by omega
 subst this
 refine ⟨h1, ?_⟩
 rcases h.2 with h2 | ⟨g, cap, cur, a1, a2, a3⟩
 ·exact .inl h2
 ·exact .inr ⟨g, cap, cur, a1, by omega, a3⟩
theorem conv_own {P : Program} {src dst e : TypeId} (hs : P.underlying src = some (.slice e)) (he : P.underlying e = some (.int .u8)) (hd : P.underlying dst = some .string)
  {w : World} {base e' n : Nat} {v : Value} {l : Bytes} (h : w.ownsRow base e' 1 v n (Lib.byteCells l)) : (convert src dst v).run P w = .ok (.string (bs l)) w := by
 have hl := h.1
 rw [Lib.byteCells_length] at hl
 rcases h.2 with ⟨rfl, rfl⟩ | ⟨g, cap, cur, rfl, hg, hb, hn, hm, hsz, htk⟩
 ·obtain rfl : l = [] := List.eq_nil_of_length_eq_zero (by omega)
  exact run_convert_bytes_nil w src e hs he _ _ dst hd
 ·have := run_convert_bytes_back (P := P) w src dst e ⟨g, 0, none⟩ cap l hs he hd (fun j hj => by
   have := h.cells (g := g) rfl j (.int .u8 l[j].toNat) (by simp [Lib.byteCells, hj])
   exact this)
  rw [show n = l.length by omega]
  exact this
theorem toList_ls (a : ByteArray) : a.toList = ls a := ByteArray.toList_eq a
theorem toList_bs (a : Bytes) : (bs a).toList = a := by rw [toList_ls, ls_bs]
theorem eq_dec {a b : Bytes} : (a == b) = decide (a = b) := by
 by_cases h : a = b <;> simp [h]
theorem pushS {P : Program} {ops : Array Oper} {rest : List Oper} {o : Oper} {a : Act} {Q : Exit -> Act -> World -> Prop} (hgd : o.guard = none) (sl x : Operand) (t u : TypeId)
  (ho : o.op = .call { callee := .builtin .append, args := #[sl, x], argTypes := #[t, u] })
  (base : Nat) (e : TypeId) (i : TypeInfo) (ht : P.underlying t = some (.slice e)) (hu : P.underlying u = some .string) (hi : P.info? e = some i) (hz : i.zero = some (.int .u8 0))
  (hsize : i.size = 1) (hby : i.bytes = 1) (w : World)
  (v : Value) (n : Nat) (l : Bytes) (hs : a.eval sl = v) (hown : w.ownsRow base e 1 v n (Lib.byteCells l)) (m : Bytes) (hx : a.eval x = .string (bs m))
  (h63 : n + m.length <= 1099511627776) (hbase : base <= w.heap.size)
  (h : ∀ v' w', w'.ownsRow base e 1 v' (n + m.length) (Lib.byteCells (l ++ m)) -> w.heap.size <= w'.heap.size -> Below base w w' -> wpList P ops Q rest (a.put o.dst v') w') : wpList P ops Q (o :: rest) a w := by
 refine Lib.wpList_append_own_string _ hgd sl x t u ho base e i ht hu hi hz hsize hby v n _ hs hown (bs m) hx ?_ ?_ hbase ?_
 ·rw [bs_size]; unfold maxLen; omega
 ·rw [bs_size]; omega
 ·intro v' w' ho' hg _
  refine h v' w' ?_ hg.size ((Below.refl _ _).grown hg hbase (fun k hk => (hown.lt k hk).1))
  rw [bs_size] at ho'
  have : Lib.byteCells l ++ Lib.strCells (bs m) = Lib.byteCells (l ++ m) := by simp [Lib.byteCells, Lib.strCells, bs]
  rwa [this] at ho'
def RetS (w : World) (l : Bytes) : Ending -> World -> Prop := fun en w' => en = .returned (S l) ∧ Below w.heap.size w w'
theorem append_run {P : Program} {ops : Array Oper} {rest : List Oper} {o : Oper} {a : Act} {Q : Exit -> Act -> World -> Prop} {w : World} (hgd : o.guard = none) (sl x : Operand) (t u : TypeId)
  (ho : o.op = .call { callee := .builtin .append, args := #[sl, x], argTypes := #[t, u] }) (v xv v' : Value) (w' : World) (hs : a.eval sl = v) (hx : a.eval x = xv)
  (hr : (Builtin.append_ #[t, u] o.type #[v, xv]).run P w = .ok v' w') (h : wpList P ops Q rest (a.put o.dst v') w') : wpList P ops Q (o :: rest) a w := by
 refine wpList_plain hgd fun K hK => ?_
 unfold Oper.wp execOp
 simp only [ho, resolve, invoke, builtin, Sem.run_bind, Sem.run_pure, Result.andThen_ok, List.map_toArray, List.map_cons, List.map_nil, hs, hx, hr]
 exact hK _ _ h
theorem bz_refl (a : World) : Below a.heap.size a a := Below.refl _ _
theorem bz_drew {a w : World} (h : Below a.heap.size a w) : Below a.heap.size a w.drew := h.drew
theorem bz_drewN {a w : World} {n : Nat} (h : Below a.heap.size a w) : Below a.heap.size a (w.drewN n) := drewN_below h n
def b2 (x : UInt8) : Int := x.toNat
theorem b2_lt (x : UInt8) : 0 <= b2 x ∧ b2 x < 256 := by have := x.toNat_lt; unfold b2; omega
abbrev I64s (l : List Int) : List Value := l.map (Value.int .i64)
theorem h_ {p : Prop} (h : p) : RowKit.Hid p := Lib.hid h
theorem ex_ {α : Sort _} (a : α) : ∃ x, x = a := ⟨a, rfl⟩
end Go.Proofs.YtpckaimpjccjhaaGreatDoor
