/- HlwA HlwB HlwC PrsA PrsB PrsC PrsD PrsE PrsF PrsH PrsI AthE AthF AthG AthH AthK: joined. -/
import Derived.Laws.StructEq
import Derived.ChangeKeysEq
import Derived.Test.YtpckaimpjccjhaaGreatDoorGSixF
import Derived.Test.YtpckaimpjccjhaaGreatDoorGSlic
import Derived.Test.YtpckaimpjccjhaaGreatDoorGOwnB
import Derived.Deep.DeepCutAuto
set_option maxHeartbeats 40000000
namespace Go.Proofs.YtpckaimpjccjhaaGreatDoor
open Go.RowKit
set_option maxRecDepth 10000
section
variable {P : Program} {ops : Array Oper} {rest : List Oper} {o : Oper} {a : Act} {w : World} {Q : Exit -> Act -> World -> Prop}
theorem val_w (hg : Region.wanted o (yielded ops a.tmps) = true) (v : Value) (hr : (execOp a.eval o).run P w = .ok (.value v) w) (h : wpList P ops Q rest (a.put o.dst v) w) : wpList P ops Q (o :: rest) a w := by
 unfold wpList
 rw [if_pos hg]
 refine .inl ?_
 unfold Oper.wp
 rw [hr]
 exact h
theorem build_w (hg : Region.wanted o (yielded ops a.tmps) = true) (t : TypeId) (parts : Array (Nat × Operand)) (ho : o.op = .build t parts) (v : Value) (xs : Array (Nat × Value)) (hx : parts.map (fun (i, x) => (i, a.eval x)) = xs) (hr : ∀ w, (Instr.build t xs).run P w = .ok v w) (h : wpList P ops Q rest (a.put o.dst v) w) : wpList P ops Q (o :: rest) a w := by
 refine val_w hg v ?_ h
 subst hx
 unfold execOp
 simp only [ho, Sem.run_bind, Sem.run_pure, Result.andThen_ok, hr]
end
structure HB (W : World) (b : Nat) (h : Hst) : Prop where
 a : W.heap[b]? = some (.cells (hCells h) 27 (0, 0))
 l : h.six.length = 8
theorem HB.lt {W : World} {b : Nat} {h : Hst} (i : HB W b h) : b < W.heap.size := (Array.getElem?_eq_some_iff.1 i.a).1
theorem HB.keep {W W' : World} {b : Nat} {h : Hst} (i : HB W b h) (hb : Below W.heap.size W W') : HB W' b h := ⟨(hb.block b i.lt).trans i.a, i.l⟩
theorem HB.new (W : World) (h : Hst) (l : h.six.length = 8) : HB (W.alloc (.cells (hCells h) 27)) W.heap.size h := ⟨heap_alloc_new W _, l⟩
theorem HB.cell {W : World} {b : Nat} {h : Hst} (i : HB W b h) (j : Nat) : W.cell? ⟨b, j, none⟩ = (hCells h)[j]? := by
 simp [World.cell?, i.a]
theorem HB.load {W : World} {b : Nat} {h : Hst} (i : HB W b h) : (loadVar 27 ⟨b, 0, none⟩).run Tryz.prog W = .ok (.agg (hCells h)) W := load_host W b h i.a i.l
section
variable {ops : Array Oper} {rest : List Oper} {o : Oper} {a : Act} {w : World} {Q : Exit -> Act -> World -> Prop}
theorem storeH {W : World} (hg : o.guard = none) (x y : Operand) (ho : o.op = .store 27 x y) (h : Hst) (hl : h.six.length = 8)
  (hW : W = w.alloc (.cells (hCells H0) 27)) (hx : a.eval x = .pointer (some ⟨w.heap.size, 0, none⟩)) (hy : a.eval y = .agg (hCells h))
  (k : ∀ w', HB w' w.heap.size h -> Below w.heap.size w w' -> wpList Tryz.prog ops Q rest (a.put o.dst undef) w') : wpList Tryz.prog ops Q (o :: rest) a W := by
 subst hW
 have hz : (hCells h).size = 11 := by simp [hstCells, hl]
 exact store_new hg 27 x y ho (hCells h) (hCells H0) 27 hx hy (hsize h hl) (by rw [hz]; rfl) (honec h) (k _ (HB.new w h hl) ((Below.refl _ _).alloc (Nat.le_refl _) _))
theorem loadH (hg : Region.wanted o (yielded ops a.tmps) = true) (x : Operand) (ho : o.op = .load 27 x) (b : Nat) (h : Hst) (i : HB w b h) (hx : a.eval x = .pointer (some ⟨b, 0, none⟩))
  (k : wpList Tryz.prog ops Q rest (a.put o.dst (.agg (hCells h))) w) : wpList Tryz.prog ops Q (o :: rest) a w := by
 refine val_w hg (.agg (hCells h)) ?_ k
 have e := i.load
 unfold execOp
 simp only [ho, hx, Instr.loadAt, Instr.sureAddr, Sem.run_bind, Sem.run_pure, Result.andThen_ok, e]
end
theorem stp {a b c : World} (h1 : Below a.heap.size a b) (h2 : Below b.heap.size b c) : Below a.heap.size a c := h1.trans (h2.mono h1.size)

def g1 : Hst := { H0 with kind := 3, four := 2130706433 }
def g2 : Hst := { H0 with kind := 5, name := [48, 120, 55, 70, 46, 49] }
def g3 : Hst := { H0 with kind := 2, name := [97, 97, 46, 98] }
def g4 : Hst := { H0 with kind := 4, six := [0, 0, 0, 0, 0, 0, 0, 1] }
def g6 : Hst := { H0 with kind := 1 }
def g10 : Hst := { H0 with kind := 5, name := [97, 37, 122, 122, 37, 55, 70, 37, 67, 51] }
theorem q1 : hostP (ls ⟨#[48, 120, 55, 70, 46, 49]⟩) true = some g1 := by kernel_rfl
theorem q2 : hostP (ls ⟨#[48, 120, 55, 70, 46, 49]⟩) false = some g2 := by kernel_rfl
theorem q3 : hostP (ls ⟨#[65, 37, 52, 49, 239, 188, 142, 98]⟩) true = some g3 := by kernel_rfl
theorem q4 : hostP (ls ⟨#[91, 58, 58, 49, 93]⟩) false = some g4 := by kernel_rfl
theorem q5 : hostP (ls ⟨#[91, 58, 58, 49]⟩) true = none := by kernel_rfl

theorem HB.six {W : World} {b : Nat} {h : Hst} (i : HB W b h) : W.rangeAt b 3 (U16s h.six) := fun j v hj => by
 rw [i.cell]
 show (hstCells h).toArray[3 + j]? = some v
 rw [List.getElem?_toArray]
 unfold hstCells
 rw [show 3 + j = j + 1 + 1 + 1 by omega]
 simp only [List.getElem?_cons_succ]
 exact hj
section
variable {ops : Array Oper} {rest : List Oper} {o : Oper} {a : Act} {w : World} {Q : Exit -> Act -> World -> Prop}
end

def tightF (s : Bytes) : Bytes := s.filter fun c => !(c == 9 || c == 10 || c == 13)
def trimF (s : Bytes) : Bytes := ((s.dropWhile fun c => decide (b2 c <= 32)).reverse.dropWhile fun c => decide (b2 c <= 32)).reverse
def cleanF (s : Bytes) : Bytes := tightF (trimF s)
structure Prt where
 hasS : Bool
 sch : Bytes
 rest : Bytes
 hasQ : Bool
 q : Bytes
 hasF : Bool
 f : Bytes
def cut1 (c : UInt8) : Bytes -> Bytes × Bytes × Bool
 | [] => ([], [], false)
 | x :: t => if x = c then ([], t, true) else (x :: (cut1 c t).1, (cut1 c t).2.1, (cut1 c t).2.2)
def letF (c : Int) : Bool := decide ((65 <= c ∧ c <= 90) ∨ (97 <= c ∧ c <= 122))
def schC (c : Int) : Bool := letF c || decide (48 <= c ∧ c <= 57) || decide (c = 43 ∨ c = 45 ∨ c = 46)
def schN : Bytes -> Bool
 | [] => false
 | c :: t => letF (b2 c) && t.all fun y => schC (b2 y)
def splitF (s : Bytes) : Prt :=
 let a := cut1 35 s
 let b := cut1 63 a.1
 let c := cut1 58 b.1
 if c.2.2 = true ∧ schN c.1 = true then ⟨true, c.1.map lowB, c.2.1, b.2.2, b.2.1, a.2.2, a.2.1⟩ else ⟨false, [], b.1, b.2.2, b.2.1, a.2.2, a.2.1⟩
def driveF : Bytes -> Bool
 | [a, b] => letF (b2 a) && (b == 58 || b == 124)
 | _ => false
def normF : Bytes -> Bool
 | [a, b] => letF (b2 a) && b == 58
 | _ => false
def startsF : Bytes -> Bool
 | [] => false
 | [_] => false
 | [a, b] => driveF [a, b]
 | a :: b :: c :: _ => driveF [a, b] && (c == 47 || c == 92 || c == 63 || c == 35)
def behF : Bytes -> Option Bytes
 | [] => none
 | c :: t => if c = 46 then some t else match c, t with
  | 37, 50 :: y :: r => if y = 101 ∨ y = 69 then some r else none
  | _, _ => none
def isDot (s : Bytes) : Bool := behF s == some []
def isDots (s : Bytes) : Bool := match behF s with | some r => isDot r | none => false
def shortF (sch : Bytes) (p : List Bytes) : List Bytes := match p with
 | [] => []
 | [x] => if sch = [102, 105, 108, 101] ∧ normF x = true then [x] else []
 | p => p.dropLast
def slP (sp : Bool) (c : UInt8) : Bool := c == 47 || (sp && c == 92)
def segs (sp : Bool) : Bytes -> List Bytes
 | [] => [[]]
 | c :: t => if slP sp c = true then [] :: segs sp t else match segs sp t with | [] => [[c]] | p :: ps => (c :: p) :: ps
def segS (sch : Bytes) (out : List Bytes) (p : Bytes) (last : Bool) : List Bytes :=
 if isDots p = true then (if last then shortF sch out ++ [[]] else shortF sch out)
 else if isDot p = true then (if last then out ++ [[]] else out)
 else if sch = [102, 105, 108, 101] ∧ out = [] ∧ driveF p = true then out ++ [p.take 1 ++ [58]]
 else out ++ [pcB 4 p]
def segGo (sch : Bytes) : List Bytes -> List Bytes -> List Bytes
 | out, [] => out
 | out, [p] => segS sch out p true
 | out, p :: q :: r => segGo sch (segS sch out p false) (q :: r)
def segP (sch : Bytes) (path : List Bytes) (s : Bytes) : List Bytes := segGo sch path (segs (spF sch) s)
def fileB : Bytes := [102, 105, 108, 101]
def U0 : Url := ⟨[], [], [], H0, false, 0, false, [], [], false, [], false, []⟩
def startF (sch : Bytes) (p : Prt) : Url := { U0 with sch := sch, hasQ := p.hasQ, q := pcB (if spF sch = true then 3 else 2) p.q, hasF := p.hasF, f := pcB 1 p.f }
def slN (sp : Bool) (s : Bytes) : Nat := (s.takeWhile (slP sp)).length
def pathF' (sch s : Bytes) : List Bytes := segP sch [] (if 0 < slN (spF sch) s then s.drop 1 else s)
def acutF (sp : Bool) (s : Bytes) : Bytes × Bytes := (s.takeWhile fun c => !slP sp c, s.dropWhile fun c => !slP sp c)
def askF (u : Url) (s : Bytes) : Option Url :=
 let c := acutF (spF u.sch) s
 match authF u.sch c.1 with
 | none => none
 | some a => some { u with usr := a.user, pas := a.pass, host := a.host, hasPort := a.hasPort, port := a.port, path := if spF u.sch = true ∨ c.2 ≠ [] then pathF' u.sch c.2 else u.path }
def takeA (u b : Url) : Url := { u with usr := b.usr, pas := b.pas, host := b.host, hasPort := b.hasPort, port := b.port }
def takeP (u b : Url) : Url := if u.hasQ = true then { u with path := b.path } else { u with path := b.path, hasQ := b.hasQ, q := b.q }
def namedU (u : Url) (s : Bytes) : Option Url :=
 let c := acutF true s
 if driveF c.1 = true then some { u with path := segP u.sch [] s }
 else if c.1 = [] then some { u with path := pathF' u.sch c.2 }
 else match hostP c.1 true with
  | none => none
  | some h => some { u with host := if h.kind = 2 ∧ h.name = [108, 111, 99, 97, 108, 104, 111, 115, 116] then u.host else h, path := pathF' u.sch c.2 }
def fileU (b : Url) (p : Prt) : Option Url :=
 let u := { startF fileB p with host := { H0 with kind := 1 } }
 let from_ := decide (b.sch = fileB)
 let n := slN (spF fileB) p.rest
 if 2 <= n then namedU u (p.rest.drop 2)
 else
  let u := if from_ then { u with host := b.host } else u
  if n = 1 then
   let rest := p.rest.drop 1
   let path := if from_ = true ∧ (match b.path with | x :: _ => normF x | [] => false) = true ∧ startsF rest = false then b.path.take 1 else []
   some { u with path := segP fileB path rest }
  else if from_ = true ∧ p.rest = [] then some (takeP u b)
  else if from_ = true ∧ startsF p.rest = false then some { u with path := segP fileB (shortF fileB b.path) p.rest }
  else some { u with path := segP fileB [] p.rest }
def otherU (p : Prt) : Option Url :=
 let u := startF p.sch p
 match p.rest with
 | 47 :: 47 :: r => askF u r
 | 47 :: r => some { u with path := segP u.sch [] r }
 | s =>
  let fl := pcB 0 s
  some { u with opq := true, flat := if (p.hasQ = true ∨ p.hasF = true) ∧ fl.getLast? = some 32 then fl.dropLast ++ [37, 50, 48] else fl }
def flatU (b : Url) (p : Prt) : Option Url := if p.hasF = false ∨ p.hasQ = true ∨ p.rest ≠ [] then none else some { b with hasF := true, f := pcB 1 p.f }
def relU (b : Url) (p : Prt) : Option Url :=
 let u := startF b.sch p
 let n := slN (spF b.sch) p.rest
 if 2 <= n ∧ spF b.sch = true then askF u (p.rest.drop n)
 else if 2 <= n then askF u (p.rest.drop 2)
 else if n = 1 then some { takeA u b with path := segP b.sch [] (p.rest.drop 1) }
 else if p.rest = [] then some (takeP (takeA u b) b)
 else some { takeA u b with path := segP b.sch (shortF b.sch b.path) p.rest }
def joinU (b : Url) (p : Prt) : Option Url :=
 if (p.hasS = true ∧ p.sch = fileB) ∨ (p.hasS = false ∧ b.opq = false ∧ b.sch = fileB) then fileU b p
 else if (p.hasS = true ∧ spF p.sch = true) ∧ (p.sch ≠ b.sch ∨ p.rest.take 2 = [47, 47]) then askF (startF p.sch p) (p.rest.drop (slN (spF p.sch) p.rest))
 else if p.hasS = true ∧ ¬ spF p.sch = true then otherU p
 else if b.opq = true then flatU b p
 else relU b p
def readJ (b : Url) (s : Bytes) : Option Url := joinU b (splitF (cleanF s))
def readU (s : Bytes) : Option Url := if (splitF (cleanF s)).hasS = true then joinU U0 (splitF (cleanF s)) else none

theorem cut1_none {c : UInt8} : ∀ {s : Bytes}, c ∉ s -> cut1 c s = (s, [], false)
 | [], _ => rfl
 | x :: t, h => by rw [cut1, if_neg (fun e => h (by simp [e])), cut1_none (s := t) (fun h2 => h (by simp [h2]))]
theorem cut1_split {c : UInt8} (a b : Bytes) (h : c ∉ a) : cut1 c (a ++ c :: b) = (a, b, true) := by
 induction a with
 | nil => rw [List.nil_append, cut1, if_pos rfl]
 | cons x r ih => rw [List.cons_append, cut1, if_neg (fun e => h (by simp [e])), ih (fun h2 => h (by simp [h2]))]
theorem cut1_no (c : UInt8) : ∀ s : Bytes, c ∉ (cut1 c s).1
 | [] => by simp [cut1]
 | x :: t => by
  rw [cut1]
  split
  ·simp
  ·next h =>
   intro hm
   rcases List.mem_cons.mp hm with hm | hm
   ·exact h hm.symm
   ·exact cut1_no c t hm
theorem cut1_is (c : UInt8) : ∀ s : Bytes, s = (cut1 c s).1 ++ (if (cut1 c s).2.2 = true then c :: (cut1 c s).2.1 else [])
 | [] => rfl
 | x :: t => by
  rw [cut1]
  split
  ·next h => rw [if_pos rfl, h]; rfl
  ·rw [List.cons_append, <- cut1_is c t]
theorem cut1_flag (c : UInt8) : ∀ s : Bytes, (cut1 c s).2.2 = false -> (cut1 c s).2.1 = []
 | [], _ => rfl
 | x :: t, h => by
  rw [cut1] at h ⊢
  split at h
  ·cases h
  ·next hx => rw [if_neg hx]; exact cut1_flag c t h
theorem tight_same {s : Bytes} (h : ∀ y ∈ s, y ≠ 9 ∧ y ≠ 10 ∧ y ≠ 13) : tightF s = s := by
 unfold tightF
 rw [List.filter_eq_self]
 intro y hy
 obtain ⟨h1, h2, h3⟩ := h y hy
 simp [h1, h2, h3]
theorem trim_same {s : Bytes} (h1 : ∀ x, s.head? = some x -> ¬ b2 x <= 32) (h2 : ∀ x, s.getLast? = some x -> ¬ b2 x <= 32) : trimF s = s := by
 have key : ∀ l : Bytes, (∀ x, l.head? = some x -> ¬ b2 x <= 32) -> l.dropWhile (fun c => decide (b2 c <= 32)) = l := by
  intro l hl
  cases l with
  | nil => rfl
  | cons x r => rw [List.dropWhile_cons_of_neg (by simpa using hl x rfl)]
 unfold trimF
 rw [key s h1, key s.reverse (by intro x hx; rw [List.head?_reverse] at hx; exact h2 x hx), List.reverse_reverse]
theorem clean_same {s : Bytes} (h : ∀ y ∈ s, 32 <= b2 y) (h1 : ∀ x, s.head? = some x -> ¬ b2 x <= 32) (h2 : ∀ x, s.getLast? = some x -> ¬ b2 x <= 32) : cleanF s = s := by
 unfold cleanF
 rw [trim_same h1 h2, tight_same]
 intro y hy
 have := h y hy
 refine ⟨?_, ?_, ?_⟩ <;> rintro rfl <;> revert this <;> decide
theorem segs_ne (sp : Bool) : ∀ s, ∃ p ps, segs sp s = p :: ps
 | [] => ⟨_, _, rfl⟩
 | c :: t => by
  rw [segs]
  split
  ·exact ⟨_, _, rfl⟩
  ·obtain ⟨p, ps, h⟩ := segs_ne sp t
   rw [h]; exact ⟨_, _, rfl⟩
theorem segs_piece {sp : Bool} {p : Bytes} (h : ∀ y ∈ p, slP sp y = false) : segs sp p = [p] := by
 induction p with
 | nil => rfl
 | cons x r ih =>
  rw [segs, if_neg (by rw [h x (by simp)]; simp), ih (fun y hy => h y (by simp [hy]))]
theorem segs_app {sp : Bool} {p : Bytes} (h : ∀ y ∈ p, slP sp y = false) (t : Bytes) : segs sp (p ++ 47 :: t) = p :: segs sp t := by
 induction p with
 | nil => rw [List.nil_append, segs, if_pos (by rfl)]
 | cons x r ih =>
  rw [List.cons_append, segs, if_neg (by rw [h x (by simp)]; simp), ih (fun y hy => h y (by simp [hy]))]

theorem pc4_facts : ∀ k : Fin 256, (pcF 4 (UInt8.ofNat k.val)).all (fun y => !inF 4 (b2 y) && (y == UInt8.ofNat k.val || y == 37 || (decide (48 <= b2 y ∧ b2 y <= 57) || decide (65 <= b2 y ∧ b2 y <= 70)))) = true := by decide +kernel
theorem pc4_mem {l : Bytes} {y : UInt8} (h : y ∈ pcB 4 l) : inF 4 (b2 y) = false ∧ (y ∈ l ∨ y = 37 ∨ (48 <= b2 y ∧ b2 y <= 57) ∨ (65 <= b2 y ∧ b2 y <= 70)) := by
 obtain ⟨x, hx, hy⟩ := List.mem_flatMap.mp h
 have hf := pc4_facts ⟨x.toNat, x.toNat_lt⟩
 simp only [UInt8.ofNat_toNat] at hf
 have := List.all_eq_true.mp hf y hy
 simp only [Bool.and_eq_true, Bool.or_eq_true, Bool.not_eq_true', beq_iff_eq, decide_eq_true_eq] at this
 obtain ⟨h1, h2⟩ := this
 refine ⟨h1, ?_⟩
 rcases h2 with (h2 | h2) | h2
 ·exact .inl (h2 ▸ hx)
 ·exact .inr (.inl h2)
 ·exact .inr (.inr h2)
theorem pc4_same (l : Bytes) : pcB 4 (pcB 4 l) = pcB 4 l := pc_same fun _ hy => (pc4_mem hy).1
theorem pc4_sl {sp : Bool} {l : Bytes} (h : ∀ y ∈ l, slP sp y = false) : ∀ y ∈ pcB 4 l, slP sp y = false := by
 intro y hy
 rcases (pc4_mem hy).2 with h1 | h1 | h1
 ·exact h y h1
 ·subst h1; cases sp <;> rfl
 ·have e47 : b2 47 = 47 := by decide
  have e92 : b2 92 = 92 := by decide
  have n1 : y ≠ 47 := fun e => by rw [e] at h1; omega
  have n2 : y ≠ 92 := fun e => by rw [e] at h1; omega
  unfold slP
  simp [n1, n2]
theorem pc_cons (set : Int) (c : UInt8) (t : Bytes) : pcB set (c :: t) = pcF set c ++ pcB set t := by unfold pcB; simp
theorem pcF_in {set : Int} {c : UInt8} (h : inF set (b2 c) = true) : pcF set c = [37, hexU (c.toNat / 16), hexU (c.toNat % 16)] := by unfold pcF; rw [if_pos h]
theorem pcF_out {set : Int} {c : UInt8} (h : inF set (b2 c) = false) : pcF set c = [c] := by unfold pcF; rw [if_neg (by simp [h])]
theorem in4_facts : ∀ k : Fin 256, inF 4 (b2 (UInt8.ofNat k.val)) = true -> UInt8.ofNat k.val ≠ 46 ∧ UInt8.ofNat k.val ≠ 37 ∧ UInt8.ofNat k.val ≠ 50 ∧ UInt8.ofNat k.val ≠ 101 ∧ UInt8.ofNat k.val ≠ 69 ∧ (hexU (k.val / 16) = 50 -> hexU (k.val % 16) ≠ 101 ∧ hexU (k.val % 16) ≠ 69) := by decide +kernel
theorem in4_is {c : UInt8} (h : inF 4 (b2 c) = true) : c ≠ 46 ∧ c ≠ 37 ∧ c ≠ 50 ∧ c ≠ 101 ∧ c ≠ 69 ∧ (hexU (c.toNat / 16) = 50 -> hexU (c.toNat % 16) ≠ 101 ∧ hexU (c.toNat % 16) ≠ 69) := by
 have := in4_facts ⟨c.toNat, c.toNat_lt⟩
 simp only [UInt8.ofNat_toNat] at this
 exact this h
theorem beh_46 (t : Bytes) : behF (46 :: t) = some t := by unfold behF; dsimp only; rw [if_pos rfl]
theorem beh_other {c : UInt8} (h1 : c ≠ 46) (h2 : c ≠ 37) (t : Bytes) : behF (c :: t) = none := by
 unfold behF
 dsimp only
 rw [if_neg h1]
 split
 ·next h => exact absurd rfl h2
 ·rfl
theorem beh_hex (y : UInt8) (r : Bytes) : behF (37 :: 50 :: y :: r) = if y = 101 ∨ y = 69 then some r else none := by
 unfold behF
 dsimp only
 rw [if_neg (by decide)]
 rfl
theorem beh_no50 {d : UInt8} (h : d ≠ 50) (t : Bytes) : behF (37 :: d :: t) = none := by
 unfold behF
 dsimp only
 rw [if_neg (by decide)]
 split
 ·rename_i heq
  first
   | (injection heq with e1 e2; exact absurd e1 h)
   | exact absurd heq h
 ·rfl
theorem beh_pc : ∀ p : Bytes, behF (pcB 4 p) = (behF p).map (pcB 4)
 | [] => rfl
 | c :: t => by
  cases hc : inF 4 (b2 c) with
  | true =>
   obtain ⟨h1, h2, _, _, _, h6⟩ := in4_is hc
   rw [pc_cons, pcF_in hc, beh_other h1 h2]
   show behF (37 :: hexU (c.toNat / 16) :: hexU (c.toNat % 16) :: pcB 4 t) = none
   by_cases h50 : hexU (c.toNat / 16) = 50
   ·rw [h50, beh_hex, if_neg (by have := h6 h50; simp [this.1, this.2])]
   ·exact beh_no50 h50 _
  | false =>
   rw [pc_cons, pcF_out hc]
   show behF (c :: pcB 4 t) = _
   by_cases h46 : c = 46
   ·subst h46; rw [beh_46, beh_46]; rfl
   by_cases h37 : c = 37
   ·subst h37
    cases t with
    | nil => rfl
    | cons d t2 =>
     by_cases hd : d = 50
     ·subst hd
      have e50 : inF 4 (b2 50) = false := by decide
      rw [pc_cons, pcF_out e50]
      show behF (37 :: 50 :: pcB 4 t2) = _
      cases t2 with
      | nil => rfl
      | cons y r =>
       rw [beh_hex]
       by_cases hy : y = 101 ∨ y = 69
       ·have ey : inF 4 (b2 y) = false := by rcases hy with rfl | rfl <;> decide
        rw [if_pos hy, pc_cons, pcF_out ey]
        show behF (37 :: 50 :: y :: pcB 4 r) = _
        rw [beh_hex, if_pos hy]; rfl
       ·rw [if_neg hy, pc_cons]
        cases hi : inF 4 (b2 y) with
        | true =>
         rw [pcF_in hi]
         show behF (37 :: 50 :: 37 :: _) = none
         rw [beh_hex, if_neg (by decide)]
        | false =>
         rw [pcF_out hi]
         show behF (37 :: 50 :: y :: _) = none
         rw [beh_hex, if_neg hy]
     ·rw [beh_no50 hd, pc_cons]
      cases hi : inF 4 (b2 d) with
      | true =>
       rw [pcF_in hi]
       exact beh_no50 (by decide) _
      | false =>
       rw [pcF_out hi]
       exact beh_no50 hd _
   ·rw [beh_other h46 h37, beh_other h46 h37]; rfl
theorem pc4_nil {l : Bytes} : pcB 4 l = [] ↔ l = [] := by
 constructor
 ·intro h
  cases l with
  | nil => rfl
  | cons c t =>
   rw [pc_cons] at h
   have := (List.append_eq_nil_iff.mp h).1
   unfold pcF at this
   split at this <;> cases this
 ·rintro rfl; rfl
theorem dot_pc (p : Bytes) : isDot (pcB 4 p) = isDot p := by
 unfold isDot
 rw [beh_pc]
 cases behF p with
 | none => rfl
 | some r =>
  rw [Bool.eq_iff_iff]
  simp only [Option.map_some, beq_iff_eq, Option.some.injEq]
  exact pc4_nil
theorem dots_pc (p : Bytes) : isDots (pcB 4 p) = isDots p := by
 unfold isDots
 rw [beh_pc]
 cases behF p with
 | none => rfl
 | some r => exact dot_pc r

structure Pce (sp : Bool) (p : Bytes) : Prop where
 e : pcB 4 p = p
 s : ∀ y ∈ p, slP sp y = false
 d : isDot p = false
 dd : isDots p = false
theorem pce_nil (sp : Bool) : Pce sp [] := ⟨rfl, fun _ h => (by cases h), rfl, rfl⟩
theorem pce_pc {sp : Bool} {p : Bytes} (hs : ∀ y ∈ p, slP sp y = false) (h1 : isDot p = false) (h2 : isDots p = false) : Pce sp (pcB 4 p) :=
 ⟨pc4_same p, pc4_sl hs, by rw [dot_pc]; exact h1, by rw [dots_pc]; exact h2⟩
theorem drive_pce {sp : Bool} {p : Bytes} (h : driveF p = true) : Pce sp (p.take 1 ++ [58]) := by
 match p, h with
 | [a, b], h =>
  have key : ∀ k : Fin 256, letF (b2 (UInt8.ofNat k.val)) = true -> inF 4 (b2 (UInt8.ofNat k.val)) = false ∧ UInt8.ofNat k.val ≠ 47 ∧ UInt8.ofNat k.val ≠ 92 ∧ UInt8.ofNat k.val ≠ 46 ∧ UInt8.ofNat k.val ≠ 37 := by decide +kernel
  have ha : letF (b2 a) = true := by
   unfold driveF at h
   rw [Bool.and_eq_true] at h
   exact h.1
  have hk := key ⟨a.toNat, a.toNat_lt⟩
  simp only [UInt8.ofNat_toNat] at hk
  obtain ⟨h1, h2, h3, h4, h5⟩ := hk ha
  have e58 : inF 4 (b2 58) = false := by decide
  show Pce sp [a, 58]
  refine ⟨?_, ?_, ?_, ?_⟩
  ·rw [pc_cons, pcF_out h1, pc_cons, pcF_out e58]; rfl
  ·intro y hy
   simp only [List.mem_cons, List.not_mem_nil, or_false] at hy
   rcases hy with rfl | rfl
   ·unfold slP; simp [h2, h3]
   ·cases sp <;> rfl
  ·unfold isDot; rw [beh_other h4 h5]; rfl
  ·unfold isDots; rw [beh_other h4 h5]
theorem short_mem {sch : Bytes} {p : List Bytes} {x : Bytes} (h : x ∈ shortF sch p) : x ∈ p := by
 match p, h with
 | [], h => cases h
 | [y], h =>
  unfold shortF at h
  dsimp only at h
  split at h
  ·exact h
  ·cases h
 | y :: z :: r, h => exact List.dropLast_subset _ h
theorem segS_pce {sch : Bytes} {sp : Bool} {out : List Bytes} {p : Bytes} {last : Bool} (ho : ∀ x ∈ out, Pce sp x) (hp : ∀ y ∈ p, slP sp y = false) : ∀ x ∈ segS sch out p last, Pce sp x := by
 have app : ∀ (l : List Bytes) (q : Bytes), (∀ x ∈ l, Pce sp x) -> Pce sp q -> ∀ x ∈ l ++ [q], Pce sp x := by
  intro l q hl hq x hx
  rcases List.mem_append.mp hx with hx | hx
  ·exact hl x hx
  ·rw [List.mem_singleton.mp hx]; exact hq
 have sh : ∀ x ∈ shortF sch out, Pce sp x := fun x hx => ho x (short_mem hx)
 unfold segS
 split
 ·split
  ·exact app _ _ sh (pce_nil sp)
  ·exact sh
 ·next hdd =>
  split
  ·split
   ·exact app _ _ ho (pce_nil sp)
   ·exact ho
  ·next hd =>
   split
   ·next hf => exact app _ _ ho (drive_pce hf.2.2)
   ·exact app _ _ ho (pce_pc hp (by simpa using hd) (by simpa using hdd))
theorem segGo_pce {sch : Bytes} {sp : Bool} : ∀ (ps out : List Bytes), (∀ x ∈ out, Pce sp x) -> (∀ p ∈ ps, ∀ y ∈ p, slP sp y = false) -> ∀ x ∈ segGo sch out ps, Pce sp x
 | [], out, ho, _ => ho
 | [p], out, ho, hp => segS_pce ho (hp p (by simp))
 | p :: q :: r, out, ho, hp => segGo_pce (q :: r) _ (segS_pce ho (hp p (by simp))) (fun z hz => hp z (by simp only [List.mem_cons] at hz ⊢; exact .inr hz))
theorem segs_sl {sp : Bool} : ∀ s : Bytes, ∀ p ∈ segs sp s, ∀ y ∈ p, slP sp y = false
 | [], p, h, y, hy => by
  have : p = [] := by simpa [segs] using h
  subst this; cases hy
 | c :: t, p, h, y, hy => by
  have ih := segs_sl (sp := sp) t
  rw [segs] at h
  split at h
  ·rcases List.mem_cons.mp h with rfl | h
   ·cases hy
   ·exact ih p h y hy
  ·next hc =>
   obtain ⟨q, qs, hq⟩ := segs_ne sp t
   rw [hq] at h ih
   rcases List.mem_cons.mp h with rfl | h
   ·rcases List.mem_cons.mp hy with rfl | hy
    ·simpa using hc
    ·exact ih q (by simp) y hy
   ·exact ih p (by simp [h]) y hy
theorem segP_pce {sch : Bytes} {path : List Bytes} {s : Bytes} (h : ∀ x ∈ path, Pce (spF sch) x) : ∀ x ∈ segP sch path s, Pce (spF sch) x :=
 segGo_pce _ _ h (segs_sl s)
theorem segS_ne {sch : Bytes} {out : List Bytes} {p : Bytes} : segS sch out p true ≠ [] := by
 unfold segS
 split
 ·rw [if_pos rfl]; simp
 ·split
  ·rw [if_pos rfl]; simp
  ·split <;> simp
theorem segGo_ne {sch : Bytes} : ∀ (ps out : List Bytes), ps ≠ [] -> segGo sch out ps ≠ []
 | [], _, h => absurd rfl h
 | [p], out, _ => segS_ne
 | p :: q :: r, out, _ => segGo_ne (q :: r) _ (by simp)
theorem segP_ne {sch : Bytes} {path : List Bytes} {s : Bytes} : segP sch path s ≠ [] := by
 unfold segP
 refine segGo_ne _ _ ?_
 obtain ⟨p, ps, h⟩ := segs_ne (spF sch) s
 rw [h]; simp

def FirstN (sch : Bytes) (out : List Bytes) : Prop := sch = fileB -> ∀ p, out.head? = some p -> driveF p = true -> normF p = true
theorem pc_ge (set : Int) : ∀ l : Bytes, l.length <= (pcB set l).length
 | [] => Nat.zero_le _
 | c :: t => by
  have := pc_ge set t
  rw [pc_cons, List.length_append, List.length_cons]
  have : 1 <= (pcF set c).length := by unfold pcF; split <;> simp
  omega
theorem drive_pc {p : Bytes} (h : driveF (pcB 4 p) = true) : driveF p = true := by
 cases p with
 | nil => exact h
 | cons a t =>
  rw [pc_cons] at h
  cases ha : inF 4 (b2 a) with
  | true =>
   rw [pcF_in ha] at h
   cases ht : pcB 4 t with
   | nil => rw [ht] at h; cases h
   | cons x r => rw [ht] at h; cases h
  | false =>
   rw [pcF_out ha] at h
   cases t with
   | nil => cases h
   | cons b t2 =>
    rw [pc_cons] at h
    cases hb : inF 4 (b2 b) with
    | true =>
     rw [pcF_in hb] at h
     cases h
    | false =>
     rw [pcF_out hb] at h
     cases t2 with
     | nil => exact h
     | cons c t3 =>
      have hl := pc_ge 4 (c :: t3)
      cases hc : pcB 4 (c :: t3) with
      | nil => rw [hc] at hl; simp at hl
      | cons x r => rw [hc] at h; cases h
theorem first_app {sch : Bytes} {out : List Bytes} {q : Bytes} (h : FirstN sch out) (hq : sch = fileB -> out = [] -> driveF q = true -> normF q = true) : FirstN sch (out ++ [q]) := by
 intro hs p hp hd
 cases out with
 | nil =>
  injection hp with hp
  subst hp
  exact hq hs rfl hd
 | cons x r =>
  rw [List.cons_append] at hp
  exact h hs p hp hd
theorem first_short {sch : Bytes} {out : List Bytes} (h : FirstN sch out) : FirstN sch (shortF sch out) := by
 match out, h with
 | [], h => exact h
 | [y], h =>
  unfold shortF
  dsimp only
  split
  ·exact h
  ·intro _ p hp; cases hp
 | y :: z :: r, h =>
  intro hs p hp hd
  refine h hs p ?_ hd
  have e : shortF sch (y :: z :: r) = y :: (z :: r).dropLast := rfl
  rw [e] at hp
  exact hp
theorem segS_first {sch : Bytes} {out : List Bytes} {p : Bytes} {last : Bool} (h : FirstN sch out) : FirstN sch (segS sch out p last) := by
 unfold segS
 split
 ·split
  ·exact first_app (first_short h) (fun _ _ hd => by cases hd)
  ·exact first_short h
 ·split
  ·split
   ·exact first_app h (fun _ _ hd => by cases hd)
   ·exact h
  ·split
   ·next hf =>
    refine first_app h (fun _ _ _ => ?_)
    have hd := hf.2.2
    match p, hd with
    | [a, b], hd =>
     unfold driveF at hd
     rw [Bool.and_eq_true] at hd
     show normF [a, 58] = true
     show (letF (b2 a) && (58 : UInt8) == 58) = true
     rw [hd.1]; rfl
   ·next hf => exact first_app h (fun hs ho hd => absurd ⟨hs, ho, drive_pc hd⟩ hf)
theorem segGo_first {sch : Bytes} : ∀ (ps out : List Bytes), FirstN sch out -> FirstN sch (segGo sch out ps)
 | [], _, h => h
 | [_], _, h => segS_first h
 | _ :: q :: r, _, h => segGo_first (q :: r) _ (segS_first h)
theorem segP_first {sch : Bytes} {path : List Bytes} {s : Bytes} (h : FirstN sch path) : FirstN sch (segP sch path s) := segGo_first _ _ h

def SchOk (s : Bytes) : Prop := schN s = true ∧ s.map lowB = s
theorem low_facts : ∀ k : Fin 256, schC (b2 (UInt8.ofNat k.val)) = true -> schC (b2 (lowB (UInt8.ofNat k.val))) = true ∧ (letF (b2 (UInt8.ofNat k.val)) = true -> letF (b2 (lowB (UInt8.ofNat k.val))) = true) ∧ lowB (lowB (UInt8.ofNat k.val)) = lowB (UInt8.ofNat k.val) ∧ UInt8.ofNat k.val ≠ 58 ∧ UInt8.ofNat k.val ≠ 35 ∧ UInt8.ofNat k.val ≠ 63 ∧ 32 < b2 (UInt8.ofNat k.val) ∧ b2 (UInt8.ofNat k.val) <= 126 := by decide +kernel
theorem low_is {c : UInt8} (h : schC (b2 c) = true) : schC (b2 (lowB c)) = true ∧ (letF (b2 c) = true -> letF (b2 (lowB c)) = true) ∧ lowB (lowB c) = lowB c ∧ c ≠ 58 ∧ c ≠ 35 ∧ c ≠ 63 ∧ 32 < b2 c ∧ b2 c <= 126 := by
 have := low_facts ⟨c.toNat, c.toNat_lt⟩
 simp only [UInt8.ofNat_toNat] at this
 exact this h
theorem sch_all {s : Bytes} (h : schN s = true) : ∀ y ∈ s, schC (b2 y) = true := by
 cases s with
 | nil => cases h
 | cons c t =>
  unfold schN at h
  rw [Bool.and_eq_true] at h
  intro y hy
  rcases List.mem_cons.mp hy with rfl | hy
  ·unfold schC; rw [h.1]; rfl
  ·exact List.all_eq_true.mp h.2 y hy
theorem sch_low {s : Bytes} (h : schN s = true) : SchOk (s.map lowB) := by
 have ha := sch_all h
 refine ⟨?_, ?_⟩
 ·cases s with
  | nil => cases h
  | cons c t =>
   unfold schN at h
   rw [Bool.and_eq_true] at h
   show (letF (b2 (lowB c)) && (t.map lowB).all fun y => schC (b2 y)) = true
   rw [Bool.and_eq_true]
   refine ⟨(low_is (ha c (by simp))).2.1 h.1, List.all_eq_true.mpr fun y hy => ?_⟩
   obtain ⟨x, hx, rfl⟩ := List.mem_map.mp hy
   exact (low_is (ha x (by simp [hx]))).1
 ·rw [List.map_map]
  refine List.map_congr_left fun x hx => ?_
  exact (low_is (ha x hx)).2.2.1

def Enc (set : Int) : Prop := ∀ k : Fin 256, (pcF set (UInt8.ofNat k.val)).all (fun y => !inF set (b2 y) && decide (32 < b2 y ∧ b2 y <= 126)) = true
theorem enc1 : Enc 1 := by unfold Enc; decide +kernel
theorem enc2 : Enc 2 := by unfold Enc; decide +kernel
theorem enc3 : Enc 3 := by unfold Enc; decide +kernel
theorem enc_in {set : Int} (h : Enc set) {l : Bytes} : ∀ y ∈ pcB set l, inF set (b2 y) = false ∧ 32 < b2 y ∧ b2 y <= 126 := by
 intro y hy
 obtain ⟨x, _, hy⟩ := List.mem_flatMap.mp hy
 have hf := h ⟨x.toNat, x.toNat_lt⟩
 simp only [UInt8.ofNat_toNat] at hf
 have := List.all_eq_true.mp hf y hy
 simpa using this
theorem enc_same {set : Int} (h : Enc set) (l : Bytes) : pcB set (pcB set l) = pcB set l := pc_same fun y hy => (enc_in h y hy).1
def setQ (sch : Bytes) : Int := if spF sch = true then 3 else 2
theorem setQ_enc (sch : Bytes) : Enc (setQ sch) := by
 unfold setQ
 split
 ·exact enc3
 ·exact enc2
def le32 (c : UInt8) : Bool := decide (b2 c <= 32)
def notBr (c : UInt8) : Bool := !(c == 9 || c == 10 || c == 13)
theorem notBr_le {c : UInt8} (h : notBr c = false) : le32 c = true := by
 unfold notBr at h
 simp only [Bool.not_eq_false', Bool.or_eq_true, beq_iff_eq] at h
 rcases h with (rfl | rfl) | rfl <;> decide
theorem drop_filter : ∀ s : Bytes, (s.filter notBr).dropWhile le32 = (s.dropWhile le32).filter notBr
 | [] => rfl
 | c :: t => by
  cases hp : le32 c with
  | true =>
   rw [List.dropWhile_cons_of_pos hp]
   cases hq : notBr c with
   | true => rw [List.filter_cons_of_pos hq, List.dropWhile_cons_of_pos hp, drop_filter t]
   | false => rw [List.filter_cons_of_neg (by simp [hq]), drop_filter t]
  | false =>
   have hq : notBr c = true := by
    cases h : notBr c with
    | true => rfl
    | false => rw [notBr_le h] at hp; cases hp
   rw [List.dropWhile_cons_of_neg (by simp [hp]), List.filter_cons_of_pos hq, List.dropWhile_cons_of_neg (by simp [hp])]
theorem clean_is (s : Bytes) : cleanF s = trimF (tightF s) := by
 show (((s.dropWhile le32).reverse.dropWhile le32).reverse).filter notBr = (((s.filter notBr).dropWhile le32).reverse.dropWhile le32).reverse
 rw [drop_filter, <- List.filter_reverse, drop_filter, List.filter_reverse]
theorem dropW_head (p : UInt8 -> Bool) (l : Bytes) : ∀ x, (l.dropWhile p).head? = some x -> p x = false := by
 induction l with
 | nil => intro x h; cases h
 | cons c t ih =>
  intro x h
  cases hp : p c with
  | true => rw [List.dropWhile_cons_of_pos hp] at h; exact ih x h
  | false =>
   rw [List.dropWhile_cons_of_neg (by simp [hp])] at h
   injection h with h
   rw [<- h]; exact hp
theorem dropW_suffix (p : UInt8 -> Bool) (l : Bytes) : ∃ a, l = a ++ l.dropWhile p := ⟨l.takeWhile p, (List.takeWhile_append_dropWhile).symm⟩
theorem trim_last (s : Bytes) : ∀ x, (trimF s).getLast? = some x -> ¬ b2 x <= 32 := by
 intro x h
 unfold trimF at h
 rw [List.getLast?_reverse] at h
 have := dropW_head _ _ x h
 simpa using this
theorem clean_last (s : Bytes) : ∀ x, (cleanF s).getLast? = some x -> ¬ b2 x <= 32 := by rw [clean_is]; exact trim_last _
structure PrtOk (p : Prt) : Prop where
 s : p.hasS = true -> SchOk p.sch
 q : p.hasQ = false -> p.q = []
 f : p.hasF = false -> p.f = []
 r : (35 : UInt8) ∉ p.rest ∧ (63 : UInt8) ∉ p.rest
 e : p.hasQ = false -> p.hasF = false -> p.rest.getLast? ≠ some 32
theorem cut1_mem {c y : UInt8} {s : Bytes} (h : y ∈ (cut1 c s).1 ∨ y ∈ (cut1 c s).2.1) : y ∈ s := by
 rw [cut1_is c s]
 rcases h with h | h
 ·exact List.mem_append_left _ h
 ·by_cases hf : (cut1 c s).2.2 = true
  ·rw [if_pos hf]; exact List.mem_append_right _ (List.mem_cons_of_mem _ h)
  ·rw [cut1_flag c s (by simpa using hf)] at h; cases h
theorem cut1_all {c : UInt8} {s : Bytes} (h : (cut1 c s).2.2 = false) : (cut1 c s).1 = s := by
 have := cut1_is c s
 rw [if_neg (by simp [h]), List.append_nil] at this
 exact this.symm
theorem split_ok (c : Bytes) (hl : ∀ x, c.getLast? = some x -> ¬ b2 x <= 32) : PrtOk (splitF c) := by
 have n1 := cut1_no 35 c
 have n2 := cut1_no 63 (cut1 35 c).1
 have key : (cut1 35 c).2.2 = false -> (cut1 63 (cut1 35 c).1).2.2 = false -> (cut1 63 (cut1 35 c).1).1 = c := fun h1 h2 => (cut1_all h2).trans (cut1_all h1)
 have hm : ∀ y, y ∈ (cut1 63 (cut1 35 c).1).1 -> y ∈ (cut1 35 c).1 := fun y hy => cut1_mem (.inl hy)
 have hb := cut1_is 58 (cut1 63 (cut1 35 c).1).1
 unfold splitF
 dsimp only
 split
 ·next hc =>
  refine ⟨fun _ => sch_low hc.2, cut1_flag 63 _, cut1_flag 35 _, ⟨fun h => n1 (hm _ (cut1_mem (.inr h))), fun h => n2 (cut1_mem (.inr h))⟩, fun h1 h2 h3 => ?_⟩
  have e := key h2 h1
  rw [if_pos hc.1] at hb
  have : c.getLast? = some 32 := by
   rw [<- e, hb, List.getLast?_append, List.getLast?_cons]
   rw [h3]
   rfl
  exact hl _ this (by decide)
 ·refine ⟨fun h => (by cases h), cut1_flag 63 _, cut1_flag 35 _, ⟨fun h => n1 (hm _ h), n2⟩, fun h1 h2 h3 => ?_⟩
  have e := key h2 h1
  rw [e] at h3
  exact hl _ h3 (by decide)
theorem prt_ok (s : Bytes) : PrtOk (splitF (cleanF s)) := split_ok _ (clean_last s)
def localB : Bytes := [108, 111, 99, 97, 108, 104, 111, 115, 116]
def athOf (u : Url) : Ath := ⟨u.usr, u.pas, u.host, u.hasPort, u.port⟩
structure NoWho (v : Url) : Prop where
 u : v.usr = []
 p : v.pas = []
 h : v.hasPort = false
 n : v.port = 0
inductive Body (u : Url) : Prop where
 | opq (h1 : u.opq = true) (h2 : spF u.sch = false) (h3 : u.host = H0) (h4 : u.path = []) (h5 : NoWho u) (h7 : pcB 0 u.flat = u.flat) (h8 : u.flat.head? ≠ some 47) (h9 : u.flat.getLast? ≠ some 32) (h10 : (35 : UInt8) ∉ u.flat ∧ (63 : UInt8) ∉ u.flat)
 | none (h1 : u.opq = false) (h2 : spF u.sch = false) (h3 : u.host = H0) (h5 : NoWho u) (hp : u.path ≠ [])
 | file (h1 : u.opq = false) (hs : u.sch = fileB) (h3 : u.host = { H0 with kind := 1 } ∨ ∃ n, n ≠ [] ∧ hostP n true = some u.host ∧ ¬ (u.host.kind = 2 ∧ u.host.name = localB)) (h5 : NoWho u) (hp : u.path ≠ [])
 | asked (h1 : u.opq = false) (hs : u.sch ≠ fileB) (ha : AOk u.sch (athOf u)) (hp : spF u.sch = true -> u.path ≠ [])
structure Good (u : Url) : Prop where
 sch : SchOk u.sch
 q : u.hasQ = false -> u.q = []
 qe : pcB (setQ u.sch) u.q = u.q
 f : u.hasF = false -> u.f = []
 fe : pcB 1 u.f = u.f
 pc : ∀ x ∈ u.path, Pce (spF u.sch) x
 fi : FirstN u.sch u.path
 fl : u.opq = false -> u.flat = []
 body : Body u
structure HdU (sch : Bytes) (u : Url) : Prop where
 q : u.hasQ = false -> u.q = []
 qe : pcB (setQ sch) u.q = u.q
 f : u.hasF = false -> u.f = []
 fe : pcB 1 u.f = u.f
theorem hd_start {p : Prt} (hp : PrtOk p) (sch : Bytes) : HdU sch (startF sch p) := by
 refine ⟨fun h => ?_, ?_, fun h => ?_, ?_⟩
 ·show pcB _ p.q = []
  rw [hp.q h]; rfl
 ·exact enc_same (setQ_enc sch) p.q
 ·show pcB 1 p.f = []
  rw [hp.f h]; rfl
 ·exact enc_same enc1 p.f
theorem first_nil (sch : Bytes) : FirstN sch [] := fun _ _ h => (by cases h)
theorem pathF_pce {sch s : Bytes} : ∀ x ∈ pathF' sch s, Pce (spF sch) x := segP_pce (fun _ h => (by cases h))
theorem pathF_first {sch s : Bytes} : FirstN sch (pathF' sch s) := segP_first (first_nil sch)
theorem pathF_ne {sch s : Bytes} : pathF' sch s ≠ [] := segP_ne
theorem ask_good {sch s : Bytes} {p : Prt} {u : Url} (hp : PrtOk p) (hs : SchOk sch) (hf : sch ≠ fileB) (h : askF (startF sch p) s = some u) : Good u := by
 have hd := hd_start hp sch
 unfold askF at h
 dsimp only at h
 have e0 : (startF sch p).sch = sch := rfl
 rw [e0] at h
 cases ha : authF sch (acutF (spF sch) s).1 with
 | none => rw [ha] at h; cases h
 | some a =>
  rw [ha] at h
  injection h with h
  have hok := auth_ok ha
  by_cases hc : spF sch = true ∨ (acutF (spF sch) s).2 ≠ []
  ·rw [if_pos hc] at h
   subst h
   exact ⟨hs, hd.q, hd.qe, hd.f, hd.fe, pathF_pce, pathF_first, fun _ => rfl, .asked rfl hf hok (fun _ => pathF_ne)⟩
  ·rw [if_neg hc] at h
   subst h
   refine ⟨hs, hd.q, hd.qe, hd.f, hd.fe, fun _ h => (by cases h), first_nil _, fun _ => rfl, .asked rfl hf hok (fun h => absurd (.inl h) hc)⟩
theorem fileB_sp : spF fileB = true := by decide
theorem fileB_ok : SchOk fileB := by constructor <;> decide
structure FileOk (u : Url) : Prop where
 h3 : u.host = { H0 with kind := 1 } ∨ ∃ n, n ≠ [] ∧ hostP n true = some u.host ∧ ¬ (u.host.kind = 2 ∧ u.host.name = localB)
 h5 : NoWho u
theorem good_file {u : Url} (hd : HdU fileB u) (e : u.sch = fileB) (h1 : u.opq = false) (hfl : u.flat = []) (ok : FileOk u) (hpc : ∀ x ∈ u.path, Pce (spF fileB) x) (hfi : FirstN fileB u.path) (hne : u.path ≠ []) : Good u :=
 ⟨by rw [e]; exact fileB_ok, hd.q, by rw [e]; exact hd.qe, hd.f, hd.fe, by rw [e]; exact hpc, by rw [e]; exact hfi, fun _ => hfl, .file h1 e ok.h3 ok.h5 hne⟩
theorem named_good {u0 u : Url} {s : Bytes} (hd : HdU fileB u0) (e : u0.sch = fileB) (h1 : u0.opq = false) (hfl : u0.flat = []) (hw : NoWho u0) (hh : u0.host = { H0 with kind := 1 }) (h : namedU u0 s = some u) : Good u := by
 have hd2 : HdU fileB u0 := hd
 unfold namedU at h
 dsimp only at h
 rw [e] at h
 split at h
 ·injection h with h
  subst h
  exact good_file ⟨hd.q, hd.qe, hd.f, hd.fe⟩ rfl h1 hfl ⟨.inl hh, ⟨hw.u, hw.p, hw.h, hw.n⟩⟩ (segP_pce (fun _ h => (by cases h))) (segP_first (first_nil _)) segP_ne
 ·split at h
  ·injection h with h
   subst h
   exact good_file ⟨hd.q, hd.qe, hd.f, hd.fe⟩ rfl h1 hfl ⟨.inl hh, ⟨hw.u, hw.p, hw.h, hw.n⟩⟩ pathF_pce pathF_first pathF_ne
  ·next hne =>
   cases hg : hostP (acutF true s).1 true with
   | none => rw [hg] at h; cases h
   | some g =>
    rw [hg] at h
    injection h with h
    by_cases hl : g.kind = 2 ∧ g.name = [108, 111, 99, 97, 108, 104, 111, 115, 116]
    ·rw [if_pos hl] at h
     subst h
     exact good_file ⟨hd.q, hd.qe, hd.f, hd.fe⟩ rfl h1 hfl ⟨.inl hh, ⟨hw.u, hw.p, hw.h, hw.n⟩⟩ pathF_pce pathF_first pathF_ne
    ·rw [if_neg hl] at h
     subst h
     exact good_file ⟨hd.q, hd.qe, hd.f, hd.fe⟩ rfl h1 hfl ⟨.inr ⟨_, hne, hg, hl⟩, ⟨hw.u, hw.p, hw.h, hw.n⟩⟩ pathF_pce pathF_first pathF_ne
theorem good_fileOk {b : Url} (hb : Good b) (e : b.sch = fileB) : FileOk b ∧ b.path ≠ [] := by
 cases hb.body with
 | opq h1 h2 => rw [e, fileB_sp] at h2; cases h2
 | none h1 h2 => rw [e, fileB_sp] at h2; cases h2
 | file h1 hs h3 h5 hp => exact ⟨⟨h3, h5⟩, hp⟩
 | asked h1 hs => exact absurd e hs
theorem nil_pce {sp : Bool} : ∀ x ∈ ([] : List Bytes), Pce sp x := fun _ h => (by cases h)
theorem if_take (c : Prop) [Decidable c] {l : List Bytes} {x : Bytes} (h : x ∈ if c then l.take 1 else []) : x ∈ l := by
 by_cases hc : c
 ·rw [if_pos hc] at h; exact List.mem_of_mem_take h
 ·rw [if_neg hc] at h; cases h
theorem if_first (c : Prop) [Decidable c] {sch : Bytes} {l : List Bytes} (h : FirstN sch l) : FirstN sch (if c then l.take 1 else []) := by
 by_cases hc : c
 ·rw [if_pos hc]
  intro h1 q hq
  cases l with
  | nil => cases hq
  | cons y r => exact h h1 q hq
 ·rw [if_neg hc]; exact first_nil sch
theorem file_good {b : Url} {p : Prt} {u : Url} (hp : PrtOk p) (hb : b.sch = fileB -> Good b) (h : fileU b p = some u) : Good u := by
 have hd := hd_start hp fileB
 unfold fileU at h
 dsimp only at h
 have hw0 : NoWho (startF fileB p) := ⟨rfl, rfl, rfl, rfl⟩
 split at h
 ·exact named_good (u0 := { startF fileB p with host := { H0 with kind := 1 } }) ⟨hd.q, hd.qe, hd.f, hd.fe⟩ rfl rfl rfl ⟨rfl, rfl, rfl, rfl⟩ rfl h
 ·by_cases hf : b.sch = fileB
  ·have gb := hb hf
   obtain ⟨⟨ok3, ok5⟩, hne⟩ := good_fileOk gb hf
   have gpc := gb.pc
   have gfi := gb.fi
   rw [hf] at gpc gfi
   simp only [hf, decide_true, if_true, true_and] at h
   split at h
   ·injection h with h
    subst h
    exact good_file ⟨hd.q, hd.qe, hd.f, hd.fe⟩ rfl rfl rfl ⟨ok3, ⟨rfl, rfl, rfl, rfl⟩⟩ (segP_pce fun x hx => gpc x (if_take _ hx)) (segP_first (if_first _ gfi)) segP_ne
   ·split at h
    ·injection h with h
     subst h
     unfold takeP
     split
     ·next hq => exact good_file ⟨hd.q, hd.qe, hd.f, hd.fe⟩ rfl rfl rfl ⟨ok3, ⟨rfl, rfl, rfl, rfl⟩⟩ gpc gfi hne
     ·exact good_file ⟨gb.q, by have := gb.qe; rw [hf] at this; exact this, hd.f, hd.fe⟩ rfl rfl rfl ⟨ok3, ⟨rfl, rfl, rfl, rfl⟩⟩ gpc gfi hne
    ·split at h
     ·injection h with h
      subst h
      exact good_file ⟨hd.q, hd.qe, hd.f, hd.fe⟩ rfl rfl rfl ⟨ok3, ⟨rfl, rfl, rfl, rfl⟩⟩ (segP_pce fun x hx => gpc x (short_mem hx)) (segP_first (first_short gfi)) segP_ne
     ·injection h with h
      subst h
      exact good_file ⟨hd.q, hd.qe, hd.f, hd.fe⟩ rfl rfl rfl ⟨ok3, ⟨rfl, rfl, rfl, rfl⟩⟩ (segP_pce nil_pce) (segP_first (first_nil _)) segP_ne
  ·simp only [hf, decide_false, false_and, if_false, Bool.false_eq_true] at h
   split at h <;>
   ·injection h with h
    subst h
    exact good_file ⟨hd.q, hd.qe, hd.f, hd.fe⟩ rfl rfl rfl ⟨.inl rfl, ⟨rfl, rfl, rfl, rfl⟩⟩ (segP_pce nil_pce) (segP_first (first_nil _)) segP_ne

theorem pc0_facts : ∀ k : Fin 256, (pcF 0 (UInt8.ofNat k.val)).all (fun y => !inF 0 (b2 y) && (y == UInt8.ofNat k.val || y == 37 || (decide (48 <= b2 y ∧ b2 y <= 57) || decide (65 <= b2 y ∧ b2 y <= 70)))) = true := by decide +kernel
theorem pc0_mem {l : Bytes} {y : UInt8} (h : y ∈ pcB 0 l) : inF 0 (b2 y) = false ∧ (y ∈ l ∨ y = 37 ∨ (48 <= b2 y ∧ b2 y <= 57) ∨ (65 <= b2 y ∧ b2 y <= 70)) := by
 obtain ⟨x, hx, hy⟩ := List.mem_flatMap.mp h
 have hf := pc0_facts ⟨x.toNat, x.toNat_lt⟩
 simp only [UInt8.ofNat_toNat] at hf
 have := List.all_eq_true.mp hf y hy
 simp only [Bool.and_eq_true, Bool.or_eq_true, Bool.not_eq_true', beq_iff_eq, decide_eq_true_eq] at this
 obtain ⟨h1, h2⟩ := this
 refine ⟨h1, ?_⟩
 rcases h2 with (h2 | h2) | h2 | h2
 ·exact .inl (h2 ▸ hx)
 ·exact .inr (.inl h2)
 ·exact .inr (.inr (.inl h2))
 ·exact .inr (.inr (.inr h2))
theorem pc0_no {l : Bytes} {c : UInt8} (hc : c ≠ 37 ∧ ¬ (48 <= b2 c ∧ b2 c <= 57) ∧ ¬ (65 <= b2 c ∧ b2 c <= 70)) (h : c ∉ l) : c ∉ pcB 0 l := fun hm => by
 rcases (pc0_mem hm).2 with h1 | h1 | h1 | h1
 ·exact h h1
 ·exact hc.1 h1
 ·exact hc.2.1 h1
 ·exact hc.2.2 h1
theorem pc0_head {l : Bytes} (h : l.head? ≠ some 47) : (pcB 0 l).head? ≠ some 47 := by
 cases l with
 | nil => exact h
 | cons c t =>
  rw [pc_cons]
  unfold pcF
  split
  ·simp
  ·simpa using h
def blankF (fl : Bytes) (x : Bool) : Bytes := if x = true ∧ fl.getLast? = some 32 then fl.dropLast ++ [37, 50, 48] else fl
theorem pc0_last {l : Bytes} (h : l.getLast? ≠ some 32) : (pcB 0 l).getLast? ≠ some 32 := by
 cases hl : l.getLast? with
 | none =>
  have : l = [] := List.getLast?_eq_none_iff.mp hl
  subst this
  simp [pcB]
 | some c =>
  obtain ⟨r, rfl⟩ := List.getLast?_eq_some_iff.mp hl
  have e : pcB 0 (r ++ [c]) = pcB 0 r ++ pcF 0 c := by unfold pcB; simp
  rw [e]
  have key : ∀ k : Fin 256, UInt8.ofNat k.val ≠ 32 -> (pcF 0 (UInt8.ofNat k.val)).getLast?.isSome = true ∧ (pcF 0 (UInt8.ofNat k.val)).getLast? ≠ some 32 := by decide +kernel
  have hk := key ⟨c.toNat, c.toNat_lt⟩
  simp only [UInt8.ofNat_toNat] at hk
  have hk := hk (fun e => h (by rw [hl, e]))
  obtain ⟨y, hy⟩ := Option.isSome_iff_exists.mp hk.1
  rw [List.getLast?_append, hy]
  intro h2
  apply hk.2
  rw [hy]
  simpa using h2
theorem blank_eq (fl : Bytes) (a b : Bool) : (if (a = true ∨ b = true) ∧ fl.getLast? = some 32 then fl.dropLast ++ [37, 50, 48] else fl) = blankF fl (a || b) := by
 unfold blankF
 simp only [Bool.or_eq_true]
theorem other_good {p : Prt} {u : Url} (hp : PrtOk p) (hs : SchOk p.sch) (hsp : spF p.sch = false) (h : otherU p = some u) : Good u := by
 have hd := hd_start hp p.sch
 have hnf : p.sch ≠ fileB := fun e => by rw [e, fileB_sp] at hsp; cases hsp
 unfold otherU at h
 dsimp only at h
 split at h
 ·exact ask_good hp hs hnf h
 ·injection h with h
  subst h
  exact ⟨hs, hd.q, hd.qe, hd.f, hd.fe, segP_pce nil_pce, segP_first (first_nil _), fun _ => rfl, .none rfl hsp rfl ⟨rfl, rfl, rfl, rfl⟩ segP_ne⟩
 ·next n1 n2 =>
  rw [blank_eq] at h
  injection h with h
  subst h
  have h47 : p.rest.head? ≠ some 47 := by
   intro e
   cases hr : p.rest with
   | nil => rw [hr] at e; cases e
   | cons c t =>
    rw [hr] at e
    injection e with e
    subst e
    exact n2 t hr
  have hmem : ∀ c : UInt8, c ≠ 37 ∧ ¬ (48 <= b2 c ∧ b2 c <= 57) ∧ ¬ (65 <= b2 c ∧ b2 c <= 70) -> c ∉ p.rest -> c ∉ blankF (pcB 0 p.rest) (p.hasQ || p.hasF) := by
   intro c hc hn hm
   have h0 := pc0_no hc hn
   unfold blankF at hm
   split at hm
   ·rcases List.mem_append.mp hm with hm | hm
    ·exact h0 (List.dropLast_subset _ hm)
    ·simp only [List.mem_cons, List.not_mem_nil, or_false] at hm
     rcases hm with rfl | rfl | rfl
     ·exact hc.1 rfl
     ·exact hc.2.1 (by decide)
     ·exact hc.2.1 (by decide)
   ·exact h0 hm
  have hall : ∀ y ∈ blankF (pcB 0 p.rest) (p.hasQ || p.hasF), inF 0 (b2 y) = false := by
   intro y hy
   unfold blankF at hy
   split at hy
   ·rcases List.mem_append.mp hy with hy | hy
    ·exact (pc0_mem (List.dropLast_subset _ hy)).1
    ·simp only [List.mem_cons, List.not_mem_nil, or_false] at hy
     rcases hy with rfl | rfl | rfl <;> decide
   ·exact (pc0_mem hy).1
  have hhd : (blankF (pcB 0 p.rest) (p.hasQ || p.hasF)).head? ≠ some 47 := by
   have h0 := pc0_head h47
   unfold blankF
   split
   ·intro e
    cases hd : (pcB 0 p.rest).dropLast with
    | nil => rw [hd] at e; simp at e
    | cons c t =>
     rw [hd] at e
     apply h0
     cases hq : pcB 0 p.rest with
     | nil => rw [hq] at hd; cases hd
     | cons c2 t2 =>
      rw [hq] at hd
      cases t2 with
      | nil => cases hd
      | cons d r =>
       injection hd with h1 h2
       rw [h1]; exact e
   ·exact h0
  have hla : (blankF (pcB 0 p.rest) (p.hasQ || p.hasF)).getLast? ≠ some 32 := by
   unfold blankF
   split
   ·rw [List.getLast?_append]; simp
   ·next hn =>
    intro e
    cases hqf : (p.hasQ || p.hasF) with
    | true => exact hn ⟨hqf, e⟩
    | false =>
     rw [Bool.or_eq_false_iff] at hqf
     exact pc0_last (hp.e hqf.1 hqf.2) e
  exact ⟨hs, hd.q, hd.qe, hd.f, hd.fe, nil_pce, first_nil _, fun h => (by cases h), .opq rfl hsp rfl rfl ⟨rfl, rfl, rfl, rfl⟩ (pc_same hall) hhd hla ⟨hmem 35 (by decide) hp.r.1, hmem 63 (by decide) hp.r.2⟩⟩
theorem flat_good {b : Url} {p : Prt} {u : Url} (hb : Good b) (ho : b.opq = true) (h : flatU b p = some u) : Good u := by
 unfold flatU at h
 split at h
 ·cases h
 ·injection h with h
  subst h
  have hbd : Body { b with hasF := true, f := pcB 1 p.f } := by
   cases hb.body with
   | opq h1 h2 h3 h4 h5 h7 h8 h9 h10 => exact .opq h1 h2 h3 h4 ⟨h5.u, h5.p, h5.h, h5.n⟩ h7 h8 h9 h10
   | none h1 => rw [ho] at h1; cases h1
   | file h1 => rw [ho] at h1; cases h1
   | asked h1 => rw [ho] at h1; cases h1
  exact ⟨hb.sch, hb.q, hb.qe, fun h => (by cases h), enc_same enc1 p.f, hb.pc, hb.fi, hb.fl, hbd⟩
theorem take_body {b v : Url} (hb : Good b) (ho : b.opq = false) (hnf : b.sch ≠ fileB) (e0 : v.sch = b.sch) (e1 : v.usr = b.usr) (e2 : v.pas = b.pas) (e3 : v.host = b.host) (e4 : v.hasPort = b.hasPort) (e5 : v.port = b.port) (e6 : v.opq = false) (hp : v.path ≠ [] ∨ v.path = b.path) : Body v := by
 have hpp : b.path ≠ [] -> v.path ≠ [] := fun h => hp.elim id (fun e => e ▸ h)
 have hath : athOf v = athOf b := by unfold athOf; rw [e1, e2, e3, e4, e5]
 cases hb.body with
 | opq h1 => rw [ho] at h1; cases h1
 | none h1 h2 h3 h5 hq => exact .none e6 (by rw [e0]; exact h2) (by rw [e3]; exact h3) ⟨by rw [e1]; exact h5.u, by rw [e2]; exact h5.p, by rw [e4]; exact h5.h, by rw [e5]; exact h5.n⟩ (hpp hq)
 | file h1 hs => exact absurd hs hnf
 | asked h1 hs ha hq => exact .asked e6 (by rw [e0]; exact hs) (by rw [hath, e0]; exact ha) (fun h => hpp (hq (by rw [<- e0]; exact h)))
theorem rel_good {b : Url} {p : Prt} {u : Url} (hb : Good b) (hp : PrtOk p) (ho : b.opq = false) (hnf : b.sch ≠ fileB) (h : relU b p = some u) : Good u := by
 have hd := hd_start hp b.sch
 unfold relU at h
 dsimp only at h
 split at h
 ·exact ask_good hp hb.sch hnf h
 ·split at h
  ·exact ask_good hp hb.sch hnf h
  ·split at h
   ·injection h with h
    subst h
    exact ⟨hb.sch, hd.q, hd.qe, hd.f, hd.fe, segP_pce nil_pce, segP_first (first_nil _), fun _ => rfl, take_body hb ho hnf rfl rfl rfl rfl rfl rfl rfl (.inl segP_ne)⟩
   ·split at h
    ·injection h with h
     subst h
     unfold takeP
     split
     ·exact ⟨hb.sch, hd.q, hd.qe, hd.f, hd.fe, hb.pc, hb.fi, fun _ => rfl, take_body hb ho hnf rfl rfl rfl rfl rfl rfl rfl (.inr rfl)⟩
     ·exact ⟨hb.sch, hb.q, hb.qe, hd.f, hd.fe, hb.pc, hb.fi, fun _ => rfl, take_body hb ho hnf rfl rfl rfl rfl rfl rfl rfl (.inr rfl)⟩
    ·injection h with h
     subst h
     exact ⟨hb.sch, hd.q, hd.qe, hd.f, hd.fe, segP_pce (fun x hx => hb.pc x (short_mem hx)), segP_first (first_short hb.fi), fun _ => rfl, take_body hb ho hnf rfl rfl rfl rfl rfl rfl rfl (.inl segP_ne)⟩
theorem join_good {b : Url} {p : Prt} {u : Url} (hb : Good b ∨ (b = U0 ∧ p.hasS = true)) (hp : PrtOk p) (h : joinU b p = some u) : Good u := by
 have hU : ¬ Good b -> p.hasS = true := fun hn => hb.elim (fun g => absurd g hn) (fun e => e.2)
 unfold joinU at h
 split at h
 ·refine file_good hp (fun e => ?_) h
  rcases hb with g | ⟨e1, _⟩
  ·exact g
  ·rw [e1] at e; cases e
 ·next h1 =>
  split at h
  ·next h2 => exact ask_good hp (hp.s h2.1.1) (fun e => h1 (.inl ⟨h2.1.1, e⟩)) h
  ·next h2 =>
   split at h
   ·next h3 => exact other_good hp (hp.s h3.1) (by simpa using h3.2) h
   ·next h3 =>
    have g : Good b := by
     rcases hb with g | ⟨e1, e2⟩
     ·exact g
     ·exfalso
      by_cases hs : spF p.sch = true
      ·refine h2 ⟨⟨e2, hs⟩, .inl (fun e => ?_)⟩
       rw [e1] at e
       rw [e] at hs
       revert hs; decide
      ·exact h3 ⟨e2, hs⟩
    split at h
    ·next h4 => exact flat_good g h4 h
    ·next h4 =>
     have ho : b.opq = false := by simpa using h4
     refine rel_good g hp ho (fun e => ?_) h
     cases hq : p.hasS with
     | false => exact h1 (.inr ⟨hq, ho, e⟩)
     | true =>
      by_cases hs : spF p.sch = true
      ·by_cases he : p.sch = b.sch
       ·exact h1 (.inl ⟨hq, he.trans e⟩)
       ·exact h2 ⟨⟨hq, hs⟩, .inl he⟩
      ·exact h3 ⟨hq, hs⟩
theorem readJ_good {b u : Url} {s : Bytes} (hb : Good b) (h : readJ b s = some u) : Good u := join_good (.inl hb) (prt_ok s) h
theorem readU_good {u : Url} {s : Bytes} (h : readU s = some u) : Good u := by
 unfold readU at h
 split at h
 ·next hs => exact join_good (.inr ⟨rfl, hs⟩) (prt_ok s) h
 ·cases h

def brI (i : Bool) (c : UInt8) : Bool := if c = 91 then true else if c = 93 then false else i
def colN : Bool -> Bytes -> Option Nat
 | _, [] => none
 | i, c :: t => if c = 58 ∧ i = false then some 0 else (colN (brI i c) t).map (· + 1)
theorem col_n : ∀ (i : Bool) (s : Bytes), colF i s = (colN i s).map fun k => (s.take k, s.drop (k + 1))
 | _, [] => rfl
 | i, c :: t => by
  rw [colF, colN]
  split
  ·rfl
  ·rw [show (if c = 91 then true else if c = 93 then false else i) = brI i c from rfl, col_n (brI i c) t, Option.map_map, Option.map_map]
   rfl
theorem colN_lt : ∀ (i : Bool) (s : Bytes) (k : Nat), colN i s = some k -> k < s.length
 | _, [], _, h => by cases h
 | i, c :: t, k, h => by
  rw [colN] at h
  split at h
  ·injection h with h
   subst h
   simp
  ·cases hc : colN (brI i c) t with
   | none => rw [hc] at h; cases h
   | some m =>
    rw [hc] at h
    injection h with h
    have h1 : m + 1 = k := h
    have := colN_lt _ t m hc
    rw [List.length_cons]; omega
theorem b2_58 {c : UInt8} : b2 c = 58 ↔ c = 58 := ⟨fun h => b2_inj (h.trans (by decide)), fun h => by rw [h]; decide⟩
theorem b2_91 {c : UInt8} : b2 c = 91 ↔ c = 91 := ⟨fun h => b2_inj (h.trans (by decide)), fun h => by rw [h]; decide⟩
theorem b2_93 {c : UInt8} : b2 c = 93 ↔ c = 93 := ⟨fun h => b2_inj (h.trans (by decide)), fun h => by rw [h]; decide⟩
theorem colN_at (i : Bool) {l : Bytes} {k : Nat} (h : k < l.length) : (colN i (l.drop k)).map (· + k) = if b2 l[k] = 58 ∧ i = false then some k else (colN (if b2 l[k] = 91 then true else if b2 l[k] = 93 then false else i) (l.drop (k + 1))).map (· + (k + 1)) := by
 have e1 : brI i l[k] = if b2 l[k] = 91 then true else if b2 l[k] = 93 then false else i := by
  unfold brI
  by_cases h1 : l[k] = 91
  ·rw [if_pos h1, if_pos (b2_91.mpr h1)]
  ·rw [if_neg h1, if_neg (fun h => h1 (b2_91.mp h))]
   by_cases h2 : l[k] = 93
   ·rw [if_pos h2, if_pos (b2_93.mpr h2)]
   ·rw [if_neg h2, if_neg (fun h => h2 (b2_93.mp h))]
 rw [List.drop_eq_getElem_cons h, colN, <- e1]
 by_cases hc : l[k] = 58 ∧ i = false
 ·rw [if_pos hc, if_pos ⟨b2_58.mpr hc.1, hc.2⟩]
  simp
 ·rw [if_neg hc, if_neg (fun h => hc ⟨b2_58.mp h.1, h.2⟩), Option.map_map]
  congr 1
  funext m
  simp only [Function.comp]
  omega
def posI (o : Option Nat) : Int := match o with | some k => k | none => -1
theorem colon_any (l : Bytes) (w : World) (hl : l.length <= 1024000000) : Calls Tryz.prog 185 #[.string (bs l)] w fun e w' => e = .returned (.int .i64 (posI (colN false l))) ∧ w' = w := by
 obtain ⟨R, hR⟩ := ex_ (colN false l)
 rw [<- hR]
 have HR := h_ hR; clear hR
 obtain ⟨s, hs⟩ := ex_ (bs l)
 have hsz : s.size = l.length := by rw [hs, bs_size]
 have hby : ∀ k (hk : k < s.size) (hk2 : k < l.length), ((s[k]'hk).toNat : Int) = b2 l[k] := fun k hk hk2 => str_at hs hk hk2
 rw [<- hs]
 clear hs
 obtain ⟨N, hN⟩ := ex_ (s.size)
 have hsN : s.size = N := hN.symm
 have hNm : N <= 1024000000 := by omega
 have HBY := h_ hby; clear hby
 have HSZ := h_ hsz; clear hsz hl hN
 go_enter Tryz.func185, Tryz.ntmps185
 go_wp2_with fail
 go_loopw [3, 4] (fun bv iv wr => ∃ (k : Nat) (i : Bool), k <= N ∧ iv = .int .i64 k ∧ bv = .bool i ∧ Hid ((colN i (l.drop k)).map (· + k) = R) ∧ w = wr) (fun _ i _ => N - (intOf i).toNat)
 case atStart => exact ⟨0, false, by omega, by simp, rfl, (by rw [HR.out]; show (colN false (List.drop 0 l)).map (· + 0) = _; simp), rfl⟩
 case round =>
  obtain ⟨k, i, hk, rfl, rfl, hd, rfl⟩ := hrel
  by_cases hlt : k < N
  ·have hku : k < s.size := by omega
   have hkl : k < l.length := by have := HSZ.out; omega
   have hx := HBY.out k hku hkl
   have hst := colN_at i hkl
   rw [hd.out] at hst
   clear hd
   generalize b2 l[k] = X at hx hst
   have hX : X = 58 ∨ X = 91 ∨ X = 93 ∨ (X ≠ 58 ∧ X ≠ 91 ∧ X ≠ 93) := by omega
   rcases hX with rfl | rfl | rfl | ⟨h1, h2, h3⟩
   ·cases i with
    | false =>
     rw [if_pos ⟨rfl, rfl⟩] at hst
     have HST := h_ hst; clear hst
     go_wp2_with fail
     go_ret
     exact ⟨by rw [HST.out]; rfl, rfl⟩
    | true =>
     rw [if_neg (by simp), if_neg (by decide), if_neg (by decide)] at hst
     have HST := h_ hst; clear hst
     go_wp2_with fail
     go_roundw
     case rel => exact ⟨k + 1, true, by omega, by simp, rfl, HST.out.symm, by trivial⟩
     case measure => simp [intOf]; omega
   ·rw [if_neg (by simp), if_pos rfl] at hst
    have HST := h_ hst; clear hst
    go_wp2_with fail
    go_roundw
    case rel => exact ⟨k + 1, true, by omega, by simp, rfl, HST.out.symm, by trivial⟩
    case measure => simp [intOf]; omega
   ·rw [if_neg (by simp), if_neg (by decide), if_pos rfl] at hst
    have HST := h_ hst; clear hst
    go_wp2_with fail
    go_roundw
    case rel => exact ⟨k + 1, false, by omega, by simp, rfl, HST.out.symm, by trivial⟩
    case measure => simp [intOf]; omega
   ·rw [if_neg (fun h => h1 h.1), if_neg h2, if_neg h3] at hst
    have HST := h_ hst; clear hst
    have e1 : (X == 58) = false := by simpa using h1
    have e2 : (X == 91) = false := by simpa using h2
    have e3 : (X == 93) = false := by simpa using h3
    go_wp2_with fail
    go_roundw
    case rel => exact ⟨k + 1, i, by omega, by simp, rfl, HST.out.symm, by trivial⟩
    case measure => simp [intOf]; omega
  ·obtain rfl : k = N := by omega
   have hdr : l.drop k = [] := List.drop_eq_nil_of_le (by have := HSZ.out; omega)
   have hd1 := hd.out
   rw [hdr] at hd1
   have HST := h_ (show none = R from hd1); clear hd1 hd
   go_wp2_with fail
   go_ret
   exact ⟨by rw [<- HST.out]; rfl, rfl⟩
theorem acut_at {sp : Bool} {l : Bytes} : ∀ {k : Nat}, k <= l.length -> (∀ j (hj : j < l.length), j < k -> slP sp l[j] = false) -> (∀ hk : k < l.length, slP sp l[k] = true) -> acutF sp l = (l.take k, l.drop k) := by
 intro k hk h1 h2
 have e : l = l.take k ++ l.drop k := (List.take_append_drop k l).symm
 have ht : ∀ y ∈ l.take k, (fun c => !slP sp c) y = true := by
  intro y hy
  obtain ⟨j, hj, rfl⟩ := List.getElem_of_mem hy
  rw [List.length_take] at hj
  rw [List.getElem_take]
  simp [h1 j (by omega) (by omega)]
 have hd : (l.drop k).takeWhile (fun c => !slP sp c) = [] ∧ (l.drop k).dropWhile (fun c => !slP sp c) = l.drop k := by
  by_cases hlt : k < l.length
  ·rw [List.drop_eq_getElem_cons hlt]
   have := h2 hlt
   exact ⟨List.takeWhile_cons_of_neg (by simp [this]), List.dropWhile_cons_of_neg (by simp [this])⟩
  ·rw [List.drop_eq_nil_of_le (by omega)]
   exact ⟨rfl, rfl⟩
 unfold acutF
 have e1 : l.takeWhile (fun c => !slP sp c) = l.take k ++ (l.drop k).takeWhile (fun c => !slP sp c) := by
  conv => lhs; rw [e]
  exact List.takeWhile_append_of_pos ht
 have e2 : l.dropWhile (fun c => !slP sp c) = (l.drop k).dropWhile (fun c => !slP sp c) := by
  conv => lhs; rw [e]
  exact List.dropWhile_append_of_pos ht
 rw [e1, e2, hd.1, hd.2, List.append_nil]
theorem slP_b {sp : Bool} {c : UInt8} : slP sp c = (decide (b2 c = 47) || (sp && decide (b2 c = 92))) := by
 unfold slP
 have h1 : (c == 47) = decide (b2 c = 47) := by
  rw [Bool.eq_iff_iff, beq_iff_eq, decide_eq_true_eq]
  exact ⟨fun h => by rw [h]; decide, fun h => b2_inj (h.trans (by decide))⟩
 have h2 : (c == 92) = decide (b2 c = 92) := by
  rw [Bool.eq_iff_iff, beq_iff_eq, decide_eq_true_eq]
  exact ⟨fun h => by rw [h]; decide, fun h => b2_inj (h.trans (by decide))⟩
 rw [h1, h2]
theorem acut_any (l : Bytes) (sp : Bool) (w : World) (hl : l.length <= 1024000000) : Calls Tryz.prog 151 #[.string (bs l), .bool sp] w fun e w' => e = .returned (.tuple #[S (acutF sp l).1, S (acutF sp l).2]) ∧ Below w.heap.size w w' := by
 obtain ⟨R, hR⟩ := ex_ (acutF sp l)
 have hat : ∀ k, k <= l.length -> (∀ j (hj : j < l.length), j < k -> slP sp l[j] = false) -> (∀ hk : k < l.length, slP sp l[k] = true) -> R = (l.take k, l.drop k) := fun k h1 h2 h3 => hR.trans (acut_at h1 h2 h3)
 rw [<- hR]
 clear hR
 have HAT := h_ hat; clear hat
 obtain ⟨s, hs⟩ := ex_ (bs l)
 have hsz : s.size = l.length := by rw [hs, bs_size]
 have hby : ∀ k (hk : k < s.size) (hk2 : k < l.length), ((s[k]'hk).toNat : Int) = b2 l[k] := fun k hk hk2 => str_at hs hk hk2
 have hx1 : ∀ k, s.extract 0 k = bs (l.take k) := fun k => by rw [hs, bs_extract, List.drop_zero, Nat.sub_zero]
 have hx2 : ∀ k, s.extract k s.size = bs (l.drop k) := fun k => by rw [hs, bs_extract, bs_size, List.take_of_length_le (by rw [List.length_drop]; omega)]
 rw [<- hs]
 have hss : bs l = s := hs.symm
 have HSS := h_ hss
 clear hs hss
 obtain ⟨N, hN⟩ := ex_ (s.size)
 have hsN : s.size = N := hN.symm
 rw [hsN] at hx2
 have hNm : N <= 1024000000 := by omega
 have HBY := h_ hby; clear hby
 have HSZ := h_ hsz; clear hsz hl hN
 have HX1 := h_ hx1; clear hx1
 have HX2 := h_ hx2; clear hx2
 go_enter Tryz.func151, Tryz.ntmps151
 go_wp2_with fail
 go_loopw [6] (fun iv wr => ∃ k : Nat, k <= N ∧ iv = .int .i64 k ∧ Hid (∀ j (hj : j < l.length), j < k -> slP sp l[j] = false) ∧ w = wr) (fun i _ => N - (intOf i).toNat)
 case atStart => exact ⟨0, by omega, by simp, (fun j hj h => absurd h (Nat.not_lt_zero j)), rfl⟩
 case round =>
  obtain ⟨k, hk, rfl, hall, rfl⟩ := hrel
  by_cases hlt : k < N
  ·have hku : k < s.size := by omega
   have hkl : k < l.length := by have := HSZ.out; omega
   have hx := HBY.out k hku hkl
   have hnext : slP sp l[k] = false -> ∀ j (hj : j < l.length), j < k + 1 -> slP sp l[j] = false := fun h j hj h1 => by
    rcases Nat.lt_or_ge j k with h2 | h2
    ·exact hall.out j hj h2
    ·obtain rfl : j = k := by omega
     exact h
   have hhit : slP sp l[k] = true -> R = (l.take k, l.drop k) := fun h => HAT.out k (by omega) hall.out (fun _ => h)
   rw [slP_b] at hnext hhit
   have HN := h_ hnext; clear hnext
   have HH := h_ hhit; clear hhit hall
   have e1 := HX1.out k
   have e2 := HX2.out k
   obtain ⟨X, hX⟩ := ex_ (b2 l[k])
   rw [<- hX] at hx HN HH
   clear hX
   have hki : (k : Int) <= N := by omega
   by_cases h47 : X = 47
   ·subst h47
    have HR := h_ (HH.out (by simp)); clear HH HN
    go_wp2_with fail
    go_quiet (fail)
    go_wp2_with fail
    go_ret2
    exact ⟨by rw [HR.out]; rfl, bz_drewN (bz_refl _)⟩
   ·have q47 : (X == 47) = false := by simpa using h47
    cases sp with
    | false =>
     have HS := h_ (HN.out (by simp [h47])); clear HH HN
     go_wp2_with fail
     go_roundw
     case rel => exact ⟨k + 1, by omega, by simp, HS.out, by trivial⟩
     case measure => simp [intOf]; omega
    | true =>
     by_cases h92 : X = 92
     ·subst h92
      have HR := h_ (HH.out (by simp)); clear HH HN
      go_wp2_with fail
      go_quiet (fail)
      go_wp2_with fail
      go_ret2
      exact ⟨by rw [HR.out]; rfl, bz_drewN (bz_refl _)⟩
     ·have q92 : (X == 92) = false := by simpa using h92
      have HS := h_ (HN.out (by simp [h47, h92])); clear HH HN
      go_wp2_with fail
      go_roundw
      case rel => exact ⟨k + 1, by omega, by simp, HS.out, by trivial⟩
      case measure => simp [intOf]; omega
  ·obtain rfl : k = N := by omega
   have hR := HAT.out l.length (Nat.le_refl _) (fun j hj h => hall.out j hj (by have := HSZ.out; omega)) (fun h => absurd h (Nat.lt_irrefl _))
   rw [List.take_length, List.drop_length] at hR
   have HR := h_ hR; clear hR hall
   have he : (⟨#[]⟩ : ByteArray) = bs [] := rfl
   go_wp2_with fail
   go_ret2
   exact ⟨by rw [HR.out, <- HSS.out]; rfl, bz_refl _⟩

theorem wh_bad : ∀ (l : Bytes) (n : Int), (∃ y ∈ l, dgt (b2 y) 10 < 0) -> whGo n l = none
 | [], _, h => by obtain ⟨_, h, _⟩ := h; cases h
 | c :: t, n, h => by
  rw [whGo]
  by_cases hc : dgt (b2 c) 10 < 0
  ·rw [if_pos hc]
  ·rw [if_neg hc]
   refine wh_bad t _ ?_
   obtain ⟨y, hy, hd⟩ := h
   rcases List.mem_cons.mp hy with rfl | hy
   ·exact absurd hd hc
   ·exact ⟨y, hy, hd⟩
theorem wh_ok : ∀ (l : Bytes) (n : Int), (∀ y ∈ l, ¬ dgt (b2 y) 10 < 0) -> ∃ v, whGo n l = some v
 | [], n, _ => ⟨n, rfl⟩
 | c :: t, n, h => by
  rw [whGo, if_neg (h c (by simp))]
  exact wh_ok t _ (fun y hy => h y (by simp [hy]))
abbrev apE (o : Option (Int × Bool)) : Ending := .returned (.tuple #[.int .i64 ((o.map (·.1)).getD 0), .bool ((o.map (·.2)).getD false), .bool o.isSome])
theorem aport_any (sch l : Bytes) (w : World) (hl : l.length <= 1024000000) : Calls Tryz.prog 186 #[.string (bs sch), .string (bs l)] w fun e w' => e = apE (apF sch l) ∧ w' = w := by
 have hrp := fun W => rport_any sch W
 have hwh := fun W => whole_any l W hl
 obtain ⟨R, hR⟩ := ex_ (apF sch l)
 rw [<- hR]
 unfold apF at hR
 generalize ownF sch = O at hrp hR
 generalize bs sch = ss at *
 have HRP := h_ hrp; clear hrp
 have hbad : ∀ k (hk : k < l.length), dgt (b2 l[k]) 10 < 0 -> whGo 0 l = none := fun k hk h => wh_bad l 0 ⟨_, List.getElem_mem hk, h⟩
 have hgood : (∀ k (hk : k < l.length), ¬ dgt (b2 l[k]) 10 < 0) -> ∃ v, whGo 0 l = some v := fun h => wh_ok l 0 (fun y hy => by
  obtain ⟨k, hk, rfl⟩ := List.getElem_of_mem hy
  exact h k hk)
 obtain ⟨s, hs⟩ := ex_ (bs l)
 have hsz : s.size = l.length := by rw [hs, bs_size]
 have hby : ∀ k (hk : k < s.size) (hk2 : k < l.length), ((s[k]'hk).toNat : Int) = b2 l[k] := fun k hk hk2 => str_at hs hk hk2
 have hemp : (s.toList = []) ↔ l = [] := by rw [hs, toList_bs]
 rw [<- hs] at hwh ⊢
 clear hs
 obtain ⟨N, hN⟩ := ex_ (s.size)
 have hsN : s.size = N := hN.symm
 have hNm : N <= 1024000000 := by omega
 have HBY := h_ hby; clear hby
 have HSZ := h_ hsz; clear hsz hl hN
 by_cases hnil : l = []
 ·rw [if_pos hnil] at hR
  have he := hemp.mpr hnil
  have he1 : s.toList.isEmpty = true := by simpa using he
  have HR := h_ hR
  clear hemp hR hbad hgood hwh
  go_enter Tryz.func186, Tryz.ntmps186
  go_wp2_with fail
  go_ret3
  exact ⟨by rw [HR.out]; rfl, rfl⟩
 ·rw [if_neg hnil] at hR
  have he : ¬ s.toList = [] := fun h => hnil (hemp.mp h)
  have he1 : s.toList.isEmpty = false := by simpa using he
  have hwf : wholeF l = whGo 0 l := by unfold wholeF; rw [if_neg hnil]
  rw [hwf] at hR hwh
  clear hemp hwf hnil
  have HBAD := h_ hbad; clear hbad
  have HGOOD := h_ hgood; clear hgood
  have HWH := h_ hwh; clear hwh
  have HR := h_ hR; clear hR
  go_enter Tryz.func186, Tryz.ntmps186
  go_wp2_with fail
  go_loopw [7] (fun iv wr => ∃ k : Nat, k <= N ∧ iv = .int .i64 k ∧ Hid (∀ j (hj : j < l.length), j < k -> 0 <= dgt (b2 l[j]) 10) ∧ w = wr) (fun i _ => N - (intOf i).toNat)
  case atStart => exact ⟨0, by omega, by simp, (fun j hj h => absurd h (Nat.not_lt_zero j)), rfl⟩
  case round =>
   obtain ⟨k, hk, rfl, hall, rfl⟩ := hrel
   by_cases hlt : k < N
   ·have hku : k < s.size := by omega
    have hkl : k < l.length := by have := HSZ.out; omega
    have hx := HBY.out k hku hkl
    have hr := b2_lt l[k]
    have hda := fun W => digitA_any (b2 l[k]) 10 W hr (by omega)
    have hbad := HBAD.out k hkl
    have hnext : 0 <= dgt (b2 l[k]) 10 -> ∀ j (hj : j < l.length), j < k + 1 -> 0 <= dgt (b2 l[j]) 10 := fun h j hj h1 => by
     rcases Nat.lt_or_ge j k with h2 | h2
     ·exact hall.out j hj h2
     ·obtain rfl : j = k := by omega
      exact h
    have HN := h_ hnext; clear hnext
    obtain ⟨D, hD⟩ := ex_ (dgt (b2 l[k]) 10)
    rw [<- hD] at hda hbad HN
    clear hD
    generalize b2 l[k] = X at hx hr hda
    have HDA := h_ hda; clear hda hall
    by_cases hD0 : D < 0
    ·have hb := hbad hD0
     have hR := HR.out
     rw [hb] at hR
     have HR2 := h_ (show R = none from hR); clear hR hb hbad HN
     go_wp2_with (first | (go_at_call 92; refine (HDA.out _).mono ?_; rintro e w2 ⟨rfl, rfl⟩) | fail)
     go_ret3
     exact ⟨by rw [HR2.out]; rfl, rfl⟩
    ·have HS := h_ (HN.out (by omega)); clear hbad HN
     go_wp2_with (first | (go_at_call 92; refine (HDA.out _).mono ?_; rintro e w2 ⟨rfl, rfl⟩) | fail)
     go_roundw
     case rel => exact ⟨k + 1, by omega, by simp, HS.out, by trivial⟩
     case measure => simp [intOf]; omega
   ·obtain rfl : k = N := by omega
    obtain ⟨v, hv⟩ := HGOOD.out (fun j hj => by have := hall.out j hj (by have := HSZ.out; omega); omega)
    have hR := HR.out
    have hwh := HWH.out
    rw [hv] at hR hwh
    replace hwh : ∀ W, Calls Tryz.prog 135 #[.string s] W fun e w' => e = .returned (.tuple #[.int .i64 v, .bool true]) ∧ w' = W := hwh
    have HW := h_ hwh; clear hwh hall hv HWH
    dsimp only at hR
    by_cases hbig : 65535 < v
    ·rw [if_pos hbig] at hR
     have HR2 := h_ hR; clear hR
     go_wp2_with (first | (go_at_call 135; refine (HW.out _).mono ?_; rintro e w2 ⟨rfl, hw2⟩; subst hw2) | fail)
     go_ret3
     exact ⟨by rw [HR2.out]; rfl, rfl⟩
    ·rw [if_neg hbig] at hR
     cases O with
     | none =>
      rw [if_neg (by simp)] at hR
      have HR2 := h_ hR; clear hR
      have HRP2 := h_ (show ∀ W, Calls Tryz.prog 21 #[.string ss] W fun e w' => e = .returned (.tuple #[.int .i64 0, .bool false]) ∧ w' = W from HRP.out)
      go_wp2_with (first
       | (go_at_call 135; refine (HW.out _).mono ?_; rintro e w2 ⟨rfl, hw2⟩; subst hw2)
       | (go_at_call 21; refine (HRP2.out _).mono ?_; rintro e w2 ⟨rfl, hw2⟩; subst hw2)
       | fail)
      go_ret3
      exact ⟨by rw [HR2.out]; rfl, rfl⟩
     | some o =>
      have HRP2 := h_ (show ∀ W, Calls Tryz.prog 21 #[.string ss] W fun e w' => e = .returned (.tuple #[.int .i64 o, .bool true]) ∧ w' = W from HRP.out)
      by_cases ho : o = v
      ·rw [if_pos (by rw [ho])] at hR
       have HR2 := h_ hR; clear hR
       have hov : (o == v) = true := by simpa using ho
       go_wp2_with (first
        | (go_at_call 135; refine (HW.out _).mono ?_; rintro e w2 ⟨rfl, hw2⟩; subst hw2)
        | (go_at_call 21; refine (HRP2.out _).mono ?_; rintro e w2 ⟨rfl, hw2⟩; subst hw2)
        | fail)
       go_ret3
       exact ⟨by rw [HR2.out]; rfl, rfl⟩
      ·rw [if_neg (fun h => ho (Option.some.inj h))] at hR
       have HR2 := h_ hR; clear hR
       have hov : (o == v) = false := by simpa using ho
       go_wp2_with (first
        | (go_at_call 135; refine (HW.out _).mono ?_; rintro e w2 ⟨rfl, hw2⟩; subst hw2)
        | (go_at_call 21; refine (HRP2.out _).mono ?_; rintro e w2 ⟨rfl, hw2⟩; subst hw2)
        | fail)
       go_ret3
       exact ⟨by rw [HR2.out]; rfl, rfl⟩

theorem lcut1 (c : UInt8) (s : Bytes) : Lib.cut s [c] = cut1 c s := by
 by_cases h : c ∈ s
 ·obtain ⟨p, r, e, hp, hc⟩ := lcut_yes h
  rw [hc, e, cut1_split p r hp]
 ·rw [lcut_no h, cut1_none h]
theorem cutF1 : ∀ s : Bytes, cutF s = ((cut1 58 s).1, (cut1 58 s).2.1)
 | [] => rfl
 | x :: t => by
  rw [cutF, cut1, cutF1 t]
  split <;> rfl
theorem at_last (s : Bytes) : (Lib.lastIndexByte (bs s) 64 = -1 ∧ atF s = none) ∨ ∃ i : Nat, i < s.length ∧ Lib.lastIndexByte (bs s) 64 = i ∧ atF s = some (s.take i, s.drop (i + 1)) := by
 have e64 : ∀ j (hj : j < s.length), ((((bs s).data[j]!).toNat : Int) = 64) ↔ s[j] = 64 := by
  intro j hj
  have e : (bs s).data[j]! = s[j] := by
   show s.toArray[j]! = _
   simp [hj]
  rw [e]
  exact ⟨fun h => b2_inj (by show b2 s[j] = b2 64; exact h.trans (by decide)), fun h => by rw [h]; decide⟩
 rcases Lib.lastIndexByte_spec (bs s) 64 with ⟨h1, h2⟩ | ⟨i, h1, h2, h3, h4⟩
 ·refine .inl ⟨h1, at_none fun hm => ?_⟩
  obtain ⟨j, hj, he⟩ := List.getElem_of_mem hm
  exact h2 j (by rw [bs_size]; exact hj) ((e64 j hj).mpr he)
 ·rw [bs_size] at h1
  refine .inr ⟨i, h1, h2, ?_⟩
  have hs : s = s.take i ++ 64 :: s.drop (i + 1) := by
   conv => lhs; rw [<- List.take_append_drop i s, List.drop_eq_getElem_cons h1, (e64 i h1).mp h3]
  have hn : (64 : UInt8) ∉ s.drop (i + 1) := fun hm => by
   obtain ⟨j, hj, he⟩ := List.getElem_of_mem hm
   rw [List.length_drop] at hj
   rw [List.getElem_drop] at he
   exact h4 (i + 1 + j) (by omega) (by rw [bs_size]; omega) ((e64 (i + 1 + j) (by omega)).mpr he)
  conv => lhs; rw [hs]
  exact at_split _ hn
def athCells (a : Ath) : List Value := [S a.user, S a.pass] ++ hstCells a.host ++ [.bool a.hasPort, .int .i64 a.port]
abbrev aCells (a : Ath) : Array Value := (athCells a).toArray
abbrev athE (o : Option Ath) : Ending := .returned (.tuple #[.agg (aCells (o.getD A0)), .bool o.isSome])
theorem allA (w : World) : (Instr.alloc 160 true (Value.tuple #[])).run Tryz.prog w = .ok (.pointer (some ⟨w.heap.size, 0, none⟩)) (w.alloc (.cells (aCells A0) 160)) := by kernel_rfl
theorem bldA0 : ∀ w, (Instr.build 160 #[]).run Tryz.prog w = .ok (.agg (aCells A0)) w := fun w => by kernel_rfl
theorem ath_info : (Tryz.prog.info? 160).map (·.size) = some 15 := by kernel_rfl
theorem one_info : (Tryz.prog.info? 9).map (·.size) = some 1 ∧ (Tryz.prog.info? 3).map (·.size) = some 1 ∧ (Tryz.prog.info? 4).map (·.size) = some 1 := by refine ⟨?_, ?_, ?_⟩ <;> kernel_rfl
theorem ath_len {a : Ath} (h : a.host.six.length = 8) : (athCells a).length = 15 := by simp [athCells, hstCells, h]
theorem ath_size {a : Ath} (h : a.host.six.length = 8) : (aCells a).size = 15 := by rw [List.size_toArray, ath_len h]
theorem hst_one {h : Hst} : ∀ v ∈ hstCells h, v.oneCell' = true := by
 intro v hv
 simp only [hstCells, List.mem_cons, List.mem_map] at hv
 rcases hv with e | e | e | ⟨_, _, e⟩ <;> first | (rw [e]; rfl) | (rw [<- e]; rfl)
theorem ath_one {a : Ath} : ∀ v ∈ athCells a, v.oneCell' = true := by
 intro v hv
 simp only [athCells, List.mem_append, List.mem_cons, List.not_mem_nil, or_false] at hv
 rcases hv with ((e | e) | e) | e | e
 ·rw [e]; rfl
 ·rw [e]; rfl
 ·exact hst_one v e
 ·rw [e]; rfl
 ·rw [e]; rfl
theorem ath_user (a : Ath) (x : Bytes) : (aCells a).setIfInBounds 0 (S x) = aCells { a with user := x } := rfl
theorem ath_pass (a : Ath) (x : Bytes) : (aCells a).setIfInBounds 1 (S x) = aCells { a with pass := x } := rfl
theorem putC_mid : ∀ (new pre old post : List Value), old.length = new.length -> putC (pre ++ old ++ post).toArray pre.length new = (pre ++ new ++ post).toArray
 | [], pre, old, post, h => by
  obtain rfl : old = [] := List.eq_nil_of_length_eq_zero h
  rfl
 | v :: r, pre, old, post, h => by
  cases old with
  | nil => cases h
  | cons x t =>
   rw [putC]
   have e : (pre ++ x :: t ++ post).toArray.setIfInBounds pre.length v = ((pre ++ [v]) ++ t ++ post).toArray := by simp
   rw [e]
   have := putC_mid r (pre ++ [v]) t post (by simpa using h)
   rw [List.length_append] at this
   simp only [List.length_cons, List.length_nil, Nat.zero_add] at this
   rw [this]
   simp
theorem putC_whole (old new : List Value) (h : old.length = new.length) : putC old.toArray 0 new = new.toArray := by
 have := putC_mid new [] old [] h
 simpa using this
theorem ath_host (a : Ath) (h : Hst) (h8 : h.six.length = 8) (g8 : a.host.six.length = 8) : putC (aCells a) 2 (hstCells h) = aCells { a with host := h } :=
 putC_mid (hstCells h) [S a.user, S a.pass] (hstCells a.host) [.bool a.hasPort, .int .i64 a.port] (by simp [hstCells, h8, g8])
theorem ath_port (a : Ath) (n : Int) (a8 : a.host.six.length = 8) : (aCells a).setIfInBounds 14 (.int .i64 n) = aCells { a with port := n } := by
 obtain ⟨u, p, ⟨k, nm, f, six⟩, hp, po⟩ := a
 simp only at a8
 obtain ⟨b1, b2, b3, b4, b5, b6, b7, b8, rfl⟩ := eight a8
 rfl
theorem ath_has (a : Ath) (b : Bool) (a8 : a.host.six.length = 8) : (aCells a).setIfInBounds 13 (.bool b) = aCells { a with hasPort := b } := by
 obtain ⟨u, p, ⟨k, nm, f, six⟩, hp, po⟩ := a
 simp only at a8
 obtain ⟨b1, b2, b3, b4, b5, b6, b7, b8, rfl⟩ := eight a8
 rfl

def stF (l : Bytes) : Option (Bytes × Bytes × Bytes) := match atF l with
 | none => some (l, [], [])
 | some (who, rest) => if rest = [] then none else some (rest, pcB 5 (cutF who).1, pcB 5 (cutF who).2)
theorem auth_st (sch l : Bytes) : authF sch l = match stF l with | none => none | some (s, u, p) => restF sch s u p := by
 unfold authF stF
 cases atF l with
 | none => rfl
 | some v =>
  obtain ⟨a, b⟩ := v
  dsimp only
  split <;> rfl
def nqF (s : Bytes) : Option (Bytes × Bytes) := match colN false s with
 | none => some (s, [])
 | some k => if s.take k = [] then none else some (s.take k, s.drop (k + 1))
theorem rest_nq (sch s u p : Bytes) : restF sch s u p = match nqF s with | none => none | some (n, q) => finF sch n q u p := by
 unfold restF nqF
 rw [col_n]
 cases colN false s with
 | none => rfl
 | some k =>
  simp only [Option.map_some]
  split <;> rfl
theorem ares {tmps : Array Value} {w w2 : World} {b : Nat} {a : Ath} {q : Bool} (h2 : tmps.getD 4 undef = .pointer (some ⟨b, 0, none⟩)) (h3 : tmps.getD 5 undef = .bool q) (i : OB w b 160 (aCells a) w2) (a8 : a.host.six.length = 8) {R : Option Ath} (hR : a = R.getD A0) (hq : q = R.isSome) :
  bodyPost Tryz.prog Tryz.f152 (fun e w' => e = athE R ∧ Below w.heap.size w w') Exit.ret { tmps := tmps, defers := [] } w2 := by
 have h2' : tmps[4]?.getD undef = .pointer (some ⟨b, 0, none⟩) := by simpa using h2
 have h3' : tmps[5]?.getD undef = .bool q := by simpa using h3
 have hl := i.load (P := Tryz.prog) 160 _ Tryz.underlying160 rfl (by rw [ath_size a8]; exact ath_info)
 refine bodyPost_ret (v := .tuple #[.agg (aCells a), .bool q]) ?_ rfl ⟨by rw [hR, hq], i.bel⟩
 simp [results, Tryz.results152, asAddr, h2', h3', hl]
theorem putA {ops : Array Oper} {rest : List Oper} {o : Oper} {a : Act} {w : World} {Q : Exit -> Act -> World -> Prop} (hgd : o.guard = none) (x y : Operand) (ho : o.op = .store 160 x y) (w0 : World) (b : Nat) (a0 a1 : Ath) (i : OB w0 b 160 (aCells a0) w)
  (h0 : a0.host.six.length = 8) (h1 : a1.host.six.length = 8) (hx : a.eval x = .pointer (some ⟨b, 0, none⟩)) (hy : a.eval y = .agg (aCells a1))
  (K : ∀ w', OB w0 b 160 (aCells a1) w' -> wpList Tryz.prog ops Q rest (a.put o.dst undef) w') : wpList Tryz.prog ops Q (o :: rest) a w :=
 putN hgd 160 x y ho w0 b 160 (aCells a0) i 0 (athCells a1) hx hy (by rw [ath_size h0, ath_len h1]; exact Nat.le_refl _) (by rw [ath_len h1]; exact ath_info) ath_one (aCells a1) (putC_whole _ _ (by rw [ath_len h0, ath_len h1])) K
theorem nq_len {s n q : Bytes} (h : nqF s = some (n, q)) : n.length <= s.length ∧ q.length <= s.length := by
 unfold nqF at h
 split at h
 ·injection h with h
  injection h with h1 h2
  subst h1; subst h2
  simp
 ·split at h
  ·cases h
  ·injection h with h
   injection h with h1 h2
   subst h1; subst h2
   rw [List.length_take, List.length_drop]
   omega
theorem st_len {l s u p : Bytes} (h : stF l = some (s, u, p)) : s.length <= l.length := by
 unfold stF at h
 rcases at_last l with ⟨_, e⟩ | ⟨i, hi, _, e⟩
 ·rw [e] at h
  injection h with h
  injection h with h1 h2
  rw [h1]; exact Nat.le_refl _
 ·rw [e] at h
  dsimp only at h
  split at h
  ·cases h
  ·injection h with h
   injection h with h1 h2
   rw [<- h1, List.length_drop]; omega
theorem aparse_gen (sch l : Bytes) (w : World) (hl : l.length <= 307200000) (hS : ∀ s u p n q, stF l = some (s, u, p) -> nqF s = some (n, q) -> Short n) (hE : Env w) : Calls Tryz.prog 152 #[.string (bs sch), .string (bs l)] w fun e w' => e = athE (authF sch l) ∧ Below w.heap.size w w' := by
 obtain ⟨R, hR⟩ := ex_ (authF sch l)
 rw [<- hR]
 rw [auth_st] at hR
 have HR := h_ hR; clear hR
 have HSH := h_ hS; clear hS
 have hlib := fun W => Any.strings_LastIndexByte Tryz.laysLib (bs l) 64 (by rw [bs_size]; omega) W
 have hla := at_last l
 obtain ⟨I, hI⟩ := ex_ (Lib.lastIndexByte (bs l) 64)
 have hlib2 : ∀ W, Calls Tryz.prog 184 #[.string (bs l), .int .u8 64] W fun e w' => e = .returned (.int .i64 I) ∧ w' = W := by rw [hI]; exact hlib
 rw [<- hI] at hla
 have HLIB := h_ hlib2; clear hlib2 hlib hI
 have hsp := fun W => special_any sch W
 have hpo := fun q W (hq : q.length <= 1024000000) => aport_any sch q W hq
 obtain ⟨ss, hss⟩ := ex_ (bs sch)
 rw [<- hss] at hsp hpo ⊢
 clear hss
 have HSP := h_ hsp; clear hsp
 have HPO := h_ hpo; clear hpo
 obtain ⟨s, hs⟩ := ex_ (bs l)
 have hsz : s.size = l.length := by rw [hs, bs_size]
 have hx1 : ∀ k, s.extract 0 k = bs (l.take k) := fun k => by rw [hs, bs_extract, List.drop_zero, Nat.sub_zero]
 have hx2 : ∀ k, s.extract k s.size = bs (l.drop k) := fun k => by rw [hs, bs_extract, bs_size, List.take_of_length_le (by rw [List.length_drop]; omega)]
 have HS := h_ hs
 rw [<- hs] at HLIB ⊢
 clear hs
 obtain ⟨N, hN⟩ := ex_ (s.size)
 have hsN : s.size = N := hN.symm
 rw [hsN] at hx2
 have hNm : N <= 307200000 := by omega
 have hNl : N = l.length := by omega
 have HX1 := h_ hx1; clear hx1
 have HX2 := h_ hx2; clear hx2
 have HLA := h_ hla; clear hla
 have HE := h_ hE; clear hE
 have HNL := h_ hNl
 have HL := h_ hl
 clear hsz hl hN hNl
 go_enter Tryz.func152, Tryz.ntmps152
 go_upto_if 19 with (first
  | (refine alloc_to rfl 160 rfl _ _ (allA _) ?_)
  | (go_at_call 184; refine (HLIB.out _).mono ?_; rintro e w2 ⟨rfl, hw2⟩; subst hw2)
  | fail)
 have h4 := OB.fresh w 160 (aCells A0)
 obtain ⟨w1, hw1⟩ := ex_ (w.alloc (.cells (aCells A0) 160))
 rw [<- hw1] at h4 ⊢
 have hz1 : w1.heap.size = w.heap.size + 1 := by rw [hw1]; simp
 have h6 := OB.fresh w1 160 (aCells A0)
 rw [hz1] at h6
 have H4 := h_ h4; clear h4
 clear hw1
 obtain ⟨w2, hw2⟩ := ex_ (w1.alloc (.cells (aCells A0) 160))
 rw [<- hw2] at h6 ⊢
 clear hw2
 have H6 := h_ h6; clear h6
 have HZ := h_ hz1; clear hz1
 go_cut [1] (fun sv wx => ∃ s2 u p, stF l = some (s2, u, p) ∧ sv = .string (bs s2) ∧ Hid (OB w1 (w.heap.size + 1) 160 (aCells { A0 with user := u, pass := p }) wx))
 case first =>
  rcases HLA.out with ⟨e1, e2⟩ | ⟨i, hi, e1, e2⟩
  ·subst e1
   have hst : stF l = some (l, [], []) := by unfold stF; rw [e2]
   have HST := h_ hst; clear hst e2 HLA
   go_wp2_with fail
   go_meet
   case rel => exact ⟨l, [], [], HST.out, by rw [HS.out], H6.out⟩
  ·subst e1
   have e3 := HX1.out i
   have e4 := HX2.out (i + 1)
   have hst : stF l = if l.drop (i + 1) = [] then none else some (l.drop (i + 1), pcB 5 (cutF (l.take i)).1, pcB 5 (cutF (l.take i)).2) := by unfold stF; rw [e2]
   have hcu := fun W (hW : Below w.heap.size w W) => scut_any (l.take i) [58] W (by rw [List.length_take]; have := HL.out; omega) (HE.out.below hW)
   rw [lcut1] at hcu
   rw [cutF1] at hst
   have hlen : (cut1 58 (l.take i)).1.length <= 307200000 ∧ (cut1 58 (l.take i)).2.1.length <= 307200000 := by
    have h := congrArg List.length (cut1_is 58 (l.take i))
    have hq : (cut1 58 (l.take i)).2.2 = false -> (cut1 58 (l.take i)).2.1 = [] := cut1_flag 58 _
    rw [List.length_append] at h
    have := HL.out
    by_cases hf : (cut1 58 (l.take i)).2.2 = true
    ·rw [if_pos hf, List.length_cons, List.length_take] at h
     omega
    ·rw [if_neg hf, List.length_nil, List.length_take] at h
     rw [hq (by simpa using hf)]
     simp only [List.length_nil]
     omega
   have hin : i + 1 <= N := by have := HNL.out; omega
   generalize cut1 58 (l.take i) = C at hcu hst hlen
   obtain ⟨c1, c2, c3⟩ := C
   simp only at hst hlen hcu
   have hp1 := fun W => pencode_any 5 c1 W (by omega)
   have hp2 := fun W => pencode_any 5 c2 W (by omega)
   generalize l.take i = who at e3 hcu
   obtain ⟨r, hr⟩ := ex_ (bs (l.drop (i + 1)))
   have hre : r.toList = [] ↔ l.drop (i + 1) = [] := by rw [hr, toList_bs]
   rw [<- hr] at e4
   have HRR := h_ hr; clear hr
   generalize l.drop (i + 1) = rest at hst hre HRR
   generalize pcB 5 c1 = u at hst hp1
   generalize pcB 5 c2 = p at hst hp2
   obtain ⟨k1, hk1⟩ := ex_ (bs c1)
   obtain ⟨k2, hk2⟩ := ex_ (bs c2)
   have hcu2 : ∀ W, Below w.heap.size w W -> Calls Tryz.prog 48 #[.string (bs who), .string ⟨#[58]⟩] W fun e w' => e = .returned (.tuple #[.string k1, .string k2, .bool c3]) ∧ Below W.heap.size W w' := by rw [hk1, hk2]; exact hcu
   rw [<- hk1] at hp1
   rw [<- hk2] at hp2
   clear hk1 hk2 hcu hlen
   generalize bs who = wh at e3 hcu2
   have HCU := h_ hcu2; clear hcu2
   have HP1 := h_ hp1; clear hp1
   have HP2 := h_ hp2; clear hp2
   have HST := h_ hst; clear hst e2 HLA
   have hn : ((i : Int) + 1) = ((i + 1 : Nat) : Int) := by omega
   have hwr : IntKind.i64.wrap ((i : Int) + 1) = ((i + 1 : Nat) : Int) := by rw [hn]; exact IntWalk.i64_in _ (by omega)
   have hin2 : (((i + 1 : Nat) : Int)) <= N := by omega
   have hii : (i : Int) <= N := by omega
   generalize i + 1 = i1 at e4 hwr hin hin2
   clear hn
   have HBW := h_ (show ∀ W, Below w1.heap.size w1 W -> Below w.heap.size w W from fun W hW => stp H4.out.bel hW)
   go_upto_region 5 with (first
    | (go_at_call 48; refine (HCU.out _ (HBW.out _ H6.out.bel)).mono ?_; rintro e w3 ⟨rfl, hb3⟩; have H63 := h_ (H6.out.below hb3); clear hb3)
    | fail)
   clear H6 HCU
   go_upto_region 6 with (first
    | (go_at_call 20; refine (HP1.out _).mono ?_; rintro e w4 ⟨rfl, hb4⟩; have H64 := h_ (H63.out.below hb4); clear hb4)
    | (refine put1 rfl 9 (.tmp 30) (.tmp 29) rfl w1 (w.heap.size + 1) 160 (aCells A0) H64.out 0 (S u) rfl rfl (by rw [ath_size rfl]; decide) one_info.1 rfl (aCells { A0 with user := u }) (ath_user A0 u) ?_; intro w5 i5 _ _; have H65 := h_ i5; clear i5)
    | fail)
   clear H63 H64 HP1
   go_upto_region 7 with (first
    | (go_at_call 20; refine (HP2.out _).mono ?_; rintro e w6 ⟨rfl, hb6⟩; have H66 := h_ (H65.out.below hb6); clear hb6)
    | (refine put1 rfl 9 (.tmp 33) (.tmp 32) rfl w1 (w.heap.size + 1) 160 (aCells { A0 with user := u }) H66.out 1 (S p) rfl rfl (by rw [ath_size rfl]; decide) one_info.1 rfl (aCells { A0 with user := u, pass := p }) (ath_pass { A0 with user := u } p) ?_; intro w7 i7 _ _; have H67 := h_ i7; clear i7)
    | fail)
   clear H65 H66 HP2
   by_cases hrn : rest = []
   ·have hst := HST.out
    rw [if_pos hrn] at hst
    have he := hre.mpr hrn
    have he1 : r.toList.isEmpty = true := by rw [he]; rfl
    have hR := HR.out
    rw [hst] at hR
    have HRN := h_ (show R = none from hR)
    have H47 := h_ (H4.out.below (H67.out.bel))
    clear hst hR hre
    go_wp2_with (first
     | (refine build_to rfl 160 #[] rfl (.agg (aCells A0)) #[] rfl bldA0 ?_)
     | (refine putA rfl (.tmp 4) (.tmp 40) rfl w w.heap.size A0 A0 H47.out rfl rfl rfl rfl ?_; intro w8 i8; have H48 := h_ i8; clear i8)
     | fail)
    exact ares rfl rfl H48.out rfl (by rw [HRN.out]; rfl) (by rw [HRN.out]; rfl)
   ·have hst := HST.out
    rw [if_neg hrn] at hst
    have he : ¬ r.toList = [] := fun h => hrn (hre.mp h)
    have he1 : r.toList.isEmpty = false := by simpa using he
    have HSS := h_ hst
    clear hst hre
    go_wp2_with fail
    go_meet
    case rel => exact ⟨rest, u, p, HSS.out, by rw [HRR.out], H67.out⟩
 case rest =>
  obtain ⟨s2, u, p, hst, rfl, h6⟩ := hcut
  clear H6 HLA HX1 HX2 HLIB HS HNL hNm hsN
  have hl2 := st_len hst
  have HST0 := h_ hst
  have hR := HR.out
  rw [hst] at hR
  replace hR : R = restF sch s2 u p := hR
  have hl3 : s2.length <= 307200000 := by have := HL.out; omega
  rw [rest_nq] at hR
  have hco := fun W => colon_any s2 W (by omega)
  have hnq : nqF s2 = match colN false s2 with | none => some (s2, []) | some k => if s2.take k = [] then none else some (s2.take k, s2.drop (k + 1)) := rfl
  have hnl := fun n q (h : nqF s2 = some (n, q)) => nq_len h
  have hcl := fun k (h : colN false s2 = some k) => colN_lt false s2 k h
  obtain ⟨C, hC⟩ := ex_ (colN false s2)
  rw [<- hC] at hnq hco hcl
  clear hC
  have HNQ := h_ hnq; clear hnq
  have HNL := h_ hnl; clear hnl
  have HCL := h_ hcl; clear hcl
  have HRR := h_ hR; clear hR hst HR
  have H6 := h_ h6; clear h6
  have HL3 := h_ hl3; clear hl3 hl2
  obtain ⟨s, hs⟩ := ex_ (bs s2)
  have hsz : s.size = s2.length := by rw [hs, bs_size]
  have hx1 : ∀ k, s.extract 0 k = bs (s2.take k) := fun k => by rw [hs, bs_extract, List.drop_zero, Nat.sub_zero]
  have hx2 : ∀ k, s.extract k s.size = bs (s2.drop k) := fun k => by rw [hs, bs_extract, bs_size, List.take_of_length_le (by rw [List.length_drop]; omega)]
  have HS := h_ hs
  rw [<- hs] at hco ⊢
  have HCO := h_ hco; clear hco hs
  obtain ⟨N, hN⟩ := ex_ (s.size)
  have hsN : s.size = N := hN.symm
  rw [hsN] at hx2
  have hNm : N <= 307200000 := by have := HL3.out; omega
  have hNl : N = s2.length := by omega
  have HX1 := h_ hx1; clear hx1
  have HX2 := h_ hx2; clear hx2
  have HNN := h_ hNl; clear hNl hN hsz
  go_upto_if 45 with (first
   | (go_at_call 185; refine (HCO.out _).mono ?_; rintro e w3 ⟨rfl, hw3⟩; subst hw3)
   | fail)
  go_cut [11, 12] (fun nv pv wx => ∃ n q, nqF s2 = some (n, q) ∧ nv = .string (bs n) ∧ pv = .string (bs q) ∧ Hid (OB w1 (w.heap.size + 1) 160 (aCells { A0 with user := u, pass := p }) wx))
  case first =>
   cases C with
   | none =>
    have HQ := h_ (show nqF s2 = some (s2, []) from HNQ.out)
    have hm1 : ¬ (0 : Int) <= -1 := by omega
    simp only [posI]
    go_wp2_with fail
    go_meet
    case rel => exact ⟨s2, [], HQ.out, by rw [HS.out], rfl, H6.out⟩
   | some k =>
    have hlt := HCL.out k rfl
    have hnq : nqF s2 = if s2.take k = [] then none else some (s2.take k, s2.drop (k + 1)) := HNQ.out
    have e3 := HX1.out k
    have e4 := HX2.out (k + 1)
    have hn : ((k : Int) + 1) = ((k + 1 : Nat) : Int) := by omega
    have hkN : k + 1 <= N := by have := HNN.out; omega
    have hwr : IntKind.i64.wrap ((k : Int) + 1) = ((k + 1 : Nat) : Int) := by rw [hn]; exact IntWalk.i64_in _ (by omega)
    have hin2 : (((k + 1 : Nat) : Int)) <= N := by omega
    have hii : (k : Int) <= N := by omega
    obtain ⟨nm, hnm⟩ := ex_ (bs (s2.take k))
    obtain ⟨qq, hqq⟩ := ex_ (bs (s2.drop (k + 1)))
    have hre : nm.toList = [] ↔ s2.take k = [] := by rw [hnm, toList_bs]
    rw [<- hnm] at e3
    rw [<- hqq] at e4
    have HNM := h_ hnm; clear hnm
    have HQQ := h_ hqq; clear hqq
    generalize s2.take k = n at hnq hre HNM
    generalize s2.drop (k + 1) = q at hnq HQQ
    generalize k + 1 = k1 at e4 hwr hin2 hkN
    clear hn hlt
    have HNQ2 := h_ hnq; clear hnq
    simp only [posI]
    by_cases hrn : n = []
    ·have hst := HNQ2.out
     rw [if_pos hrn] at hst
     have he := hre.mpr hrn
     have he1 : nm.toList.isEmpty = true := by rw [he]; rfl
     have hR := HRR.out
     rw [hst] at hR
     have HRN := h_ (show R = none from hR)
     clear hst hR hre
     go_wp2_with fail
     go_quiet (fail)
     have H62 := h_ (H6.out.below (bz_drewN (n := nq) (bz_refl _)))
     have H47 := h_ (H4.out.below (H62.out.bel))
     go_wp2_with (first
      | (refine build_to rfl 160 #[] rfl (.agg (aCells A0)) #[] rfl bldA0 ?_)
      | (refine putA rfl (.tmp 4) (.tmp 55) rfl w w.heap.size A0 A0 H47.out rfl rfl rfl rfl ?_; intro w8 i8; have H48 := h_ i8; clear i8)
      | fail)
     exact ares rfl rfl H48.out rfl (by rw [HRN.out]; rfl) (by rw [HRN.out]; rfl)
    ·have hst := HNQ2.out
     rw [if_neg hrn] at hst
     have he : ¬ nm.toList = [] := fun h => hrn (hre.mp h)
     have he1 : nm.toList.isEmpty = false := by simpa using he
     have HSS := h_ hst
     clear hst hre
     go_wp2_with fail
     go_quiet (fail)
     have H62 := h_ (H6.out.below (bz_drewN (n := nq) (bz_refl _)))
     go_wp2_with fail
     go_meet
     case rel => exact ⟨n, q, HSS.out, by rw [HNM.out], by rw [HQQ.out], H62.out⟩
  case rest =>
   obtain ⟨n, q, hst, rfl, rfl, h6⟩ := hcut
   clear H6 HNQ HCL HX1 HX2 HCO HS HNN hNm hsN
   have hnl := HNL.out n q hst
   have hR := HRR.out
   rw [hst] at hR
   replace hR : R = finF sch n q u p := hR
   have hl3 : n.length <= 307200000 ∧ q.length <= 307200000 := by have := HL3.out; omega
   have hho := fun W (hW : Below w.heap.size w W) => hparse_any n (spF sch) W (HSH.out s2 u p n q HST0.out hst) (HE.out.below hW)
   have hpo := fun W => HPO.out q W (by omega)
   unfold finF at hR
   have h8 := fun g (h : hostP n (spF sch) = some g) => (hkind_ok (hkind h)).l
   generalize spF sch = SP at *
   obtain ⟨HO, hHO⟩ := ex_ (hostP n SP)
   obtain ⟨PO, hPO⟩ := ex_ (apF sch q)
   rw [<- hHO] at hR hho h8
   rw [<- hPO] at hR hpo
   clear hHO hPO hst HNL HRR HPO hnl hl3 HL3
   obtain ⟨nb, hnb⟩ := ex_ (bs n)
   obtain ⟨qb, hqb⟩ := ex_ (bs q)
   rw [<- hnb] at hho ⊢
   rw [<- hqb] at hpo ⊢
   clear hnb hqb
   have HBW := h_ (show ∀ W, Below w1.heap.size w1 W -> Below w.heap.size w W from fun W hW => stp H4.out.bel hW)
   have HP := h_ hpo; clear hpo
   have H6 := h_ h6; clear h6
   cases HO with
   | none =>
    have HH := h_ (show ∀ W, Below w.heap.size w W -> Calls Tryz.prog 181 #[.string nb, .bool SP] W fun e w' => e = .returned (.tuple #[.agg (hCells H0), .bool false]) ∧ Below W.heap.size W w' from hho)
    have HR := h_ (show R = none from hR)
    clear hho hR h8
    go_upto_region 17 with (first
     | (go_at_call 22; refine (HSP.out _).mono ?_; rintro e w3 ⟨rfl, hw3⟩; subst hw3)
     | (go_at_call 181; refine (HH.out _ (HBW.out _ H6.out.bel)).mono ?_; rintro e w4 ⟨rfl, hb4⟩; have H64 := h_ (H6.out.below hb4); clear hb4)
     | (refine alloc_to rfl 27 rfl _ _ (allH _) ?_)
     | (refine storeH rfl (.tmp 14) (.tmp 61) rfl H0 rfl rfl rfl rfl ?_; intro W2 hh hb; have HHB := h_ hh; have H65 := h_ (H64.out.below hb); clear hh hb)
     | fail)
    have H47 := h_ (H4.out.below (H65.out.bel))
    go_wp2_with (first
     | (refine build_to rfl 160 #[] rfl (.agg (aCells A0)) #[] rfl bldA0 ?_)
     | (refine putA rfl (.tmp 4) (.tmp 65) rfl w w.heap.size A0 A0 H47.out rfl rfl rfl rfl ?_; intro w8 i8; have H48 := h_ i8; clear i8)
     | fail)
    exact ares rfl rfl H48.out rfl (by rw [HR.out]; rfl) (by rw [HR.out]; rfl)
   | some g =>
    have HH := h_ (show ∀ W, Below w.heap.size w W -> Calls Tryz.prog 181 #[.string nb, .bool SP] W fun e w' => e = .returned (.tuple #[.agg (hCells g), .bool true]) ∧ Below W.heap.size W w' from hho)
    have G8 := h_ (h8 g rfl)
    clear hho h8
    dsimp only at hR
    go_upto_region 17 with (first
     | (go_at_call 22; refine (HSP.out _).mono ?_; rintro e w3 ⟨rfl, hw3⟩; subst hw3)
     | (go_at_call 181; refine (HH.out _ (HBW.out _ H6.out.bel)).mono ?_; rintro e w4 ⟨rfl, hb4⟩; have H64 := h_ (H6.out.below hb4); clear hb4)
     | (refine alloc_to rfl 27 rfl _ _ (allH _) ?_)
     | (refine storeH rfl (.tmp 14) (.tmp 61) rfl g G8.out rfl rfl rfl ?_; intro W2 hh hb; have HHB := h_ hh; have H65 := h_ (H64.out.below hb); clear hh hb)
     | fail)
    clear H6 H64
    go_upto_region 20 with (first
     | (refine loadH (by rfl) (.tmp 14) rfl _ g HHB.out rfl ?_)
     | (refine putN rfl 27 (.tmp 67) (.tmp 66) rfl w1 (w.heap.size + 1) 160 (aCells { A0 with user := u, pass := p }) H65.out 2 (hstCells g) rfl rfl (by rw [ath_size rfl]; simp [hstCells, G8.out]) (by rw [host_info]; simp [hstCells, G8.out]) hst_one (aCells { A0 with user := u, pass := p, host := g }) (ath_host { A0 with user := u, pass := p } g G8.out rfl) ?_; intro w5 i5; have H66 := h_ i5; clear i5)
     | fail)
    clear H65 HHB
    cases PO with
    | none =>
     have HP := h_ (show ∀ W, Calls Tryz.prog 186 #[.string ss, .string qb] W fun e w' => e = .returned (.tuple #[.int .i64 0, .bool false, .bool false]) ∧ w' = W from HP.out)
     have HR := h_ (show R = none from hR)
     clear hR
     go_upto_region 21 with (first
      | (go_at_call 186; refine (HP.out _).mono ?_; rintro e w6 ⟨rfl, hw6⟩; subst hw6)
      | (refine put1 rfl 3 (.tmp 75) (.tmp 72) rfl w1 (w.heap.size + 1) 160 (aCells { A0 with user := u, pass := p, host := g }) H66.out 14 (.int .i64 0) rfl rfl (by rw [ath_size G8.out]; decide) one_info.2.1 rfl (aCells { A0 with user := u, pass := p, host := g, port := 0 }) (ath_port { A0 with user := u, pass := p, host := g } 0 G8.out) ?_; intro w7 i7 _ _; have H67 := h_ i7; clear i7)
      | (refine put1 rfl 4 (.tmp 76) (.tmp 73) rfl w1 (w.heap.size + 1) 160 (aCells { A0 with user := u, pass := p, host := g, port := 0 }) H67.out 13 (.bool false) rfl rfl (by rw [ath_size G8.out]; decide) one_info.2.2 rfl (aCells { A0 with user := u, pass := p, host := g, port := 0, hasPort := false }) (ath_has { A0 with user := u, pass := p, host := g, port := 0 } false G8.out) ?_; intro w8 i8 _ _; have H68 := h_ i8; clear i8)
      | fail)
     have H47 := h_ (H4.out.below (H68.out.bel))
     go_wp2_with (first
      | (refine build_to rfl 160 #[] rfl (.agg (aCells A0)) #[] rfl bldA0 ?_)
      | (refine putA rfl (.tmp 4) (.tmp 79) rfl w w.heap.size A0 A0 H47.out rfl rfl rfl rfl ?_; intro w8 i8; have H48 := h_ i8; clear i8)
      | fail)
     exact ares rfl rfl H48.out rfl (by rw [HR.out]; rfl) (by rw [HR.out]; rfl)
    | some v =>
     obtain ⟨v, b⟩ := v
     have HP := h_ (show ∀ W, Calls Tryz.prog 186 #[.string ss, .string qb] W fun e w' => e = .returned (.tuple #[.int .i64 v, .bool b, .bool true]) ∧ w' = W from HP.out)
     have HR := h_ (show R = some { A0 with user := u, pass := p, host := g, port := v, hasPort := b } from hR)
     clear hR
     go_upto_region 21 with (first
      | (go_at_call 186; refine (HP.out _).mono ?_; rintro e w6 ⟨rfl, hw6⟩; subst hw6)
      | (refine put1 rfl 3 (.tmp 75) (.tmp 72) rfl w1 (w.heap.size + 1) 160 (aCells { A0 with user := u, pass := p, host := g }) H66.out 14 (.int .i64 v) rfl rfl (by rw [ath_size G8.out]; decide) one_info.2.1 rfl (aCells { A0 with user := u, pass := p, host := g, port := v }) (ath_port { A0 with user := u, pass := p, host := g } v G8.out) ?_; intro w7 i7 _ _; have H67 := h_ i7; clear i7)
      | (refine put1 rfl 4 (.tmp 76) (.tmp 73) rfl w1 (w.heap.size + 1) 160 (aCells { A0 with user := u, pass := p, host := g, port := v }) H67.out 13 (.bool b) rfl rfl (by rw [ath_size G8.out]; decide) one_info.2.2 rfl (aCells { A0 with user := u, pass := p, host := g, port := v, hasPort := b }) (ath_has { A0 with user := u, pass := p, host := g, port := v } b G8.out) ?_; intro w8 i8 _ _; have H68 := h_ i8; clear i8)
      | fail)
     obtain ⟨A1, hA1⟩ : ∃ A1 : Ath, A1 = { A0 with user := u, pass := p, host := g, port := v, hasPort := b } := ⟨_, rfl⟩
     have h18 : A1.host.six.length = 8 := by rw [hA1]; exact G8.out
     rw [<- hA1] at H68
     have HR2 := h_ (show R = some A1 by rw [hA1]; exact HR.out)
     clear hA1 HR
     have H18 := h_ h18; clear h18
     have H47 := h_ (H4.out.below (H68.out.bel))
     go_wp2_with (first
      | (refine getN rfl 160 (.tmp 6) rfl w1 (w.heap.size + 1) 160 (aCells A1) H68.out _ rfl Tryz.underlying160 rfl (by rw [ath_size H18.out]; exact ath_info) ?_)
      | (refine putA rfl (.tmp 4) (.tmp 80) rfl w w.heap.size A0 A1 H47.out rfl H18.out rfl rfl ?_; intro w8 i8; have H48 := h_ i8; clear i8)
      | fail)
     exact ares rfl rfl H48.out H18.out (by rw [HR2.out]; rfl) (by rw [HR2.out]; rfl)

structure CB (W : World) (b : Nat) (T : TypeId) (cs : Array Value) : Prop where
 a : W.heap[b]? = some (.cells cs T (0, 0))
section
variable {W W' : World} {b : Nat} {T : TypeId} {cs : Array Value}
theorem CB.lt (i : CB W b T cs) : b < W.heap.size := (Array.getElem?_eq_some_iff.1 i.a).1
theorem CB.keep (i : CB W b T cs) (hb : Below W.heap.size W W') : CB W' b T cs := ⟨(hb.block b i.lt).trans i.a⟩
theorem CB.new (W : World) (T : TypeId) (cs : Array Value) : CB (W.alloc (.cells cs T)) W.heap.size T cs := ⟨heap_alloc_new W _⟩
theorem CB.cell (i : CB W b T cs) (j : Nat) : W.cell? ⟨b, j, none⟩ = cs[j]? := by simp [World.cell?, i.a]
theorem CB.cell_is (i : CB W b T cs) {j : Nat} {v : Value} (h : cs[j]? = some v) : W.cell? ⟨b, j, none⟩ = some v := (i.cell j).trans h
theorem CB.range (i : CB W b T cs) {o : Nat} {vs : List Value} (h : ∀ j v, vs[j]? = some v -> cs[o + j]? = some v) : W.rangeAt b o vs := fun j v hj => i.cell_is (h j v hj)
theorem CB.load {P : Program} (i : CB W b T cs) (ty : TypeId) (d : TypeDesc) (hu : P.underlying ty = some d) (hd : (match d with | .struct _ | .array _ _ => true | _ => false) = true) (hi : (P.info? ty).map (·.size) = some cs.size) : (loadVar ty ⟨b, 0, none⟩).run P W = .ok (.agg cs) W :=
 run_loadVar_row (P := P) W b T ty cs (0, 0) d i.a hu hd hi
end
section
variable {P : Program} {ops : Array Oper} {rest : List Oper} {o : Oper} {a : Act} {w : World} {Q : Exit -> Act -> World -> Prop}
theorem storeC {W : World} (hg : o.guard = none) (T : TypeId) (x y : Operand) (ho : o.op = .store T x y) (cs old : Array Value) (hi : (P.info? T).map (·.size) = some cs.size) (hold : old.size = cs.size) (h1 : cs.all (·.oneCell') = true)
  (hW : W = w.alloc (.cells old T)) (hx : a.eval x = .pointer (some ⟨w.heap.size, 0, none⟩)) (hy : a.eval y = .agg cs)
  (k : ∀ w', CB w' w.heap.size T cs -> Below w.heap.size w w' -> wpList P ops Q rest (a.put o.dst undef) w') : wpList P ops Q (o :: rest) a W := by
 subst hW
 exact store_new hg T x y ho cs old T hx hy hi hold h1 (k _ (CB.new w T cs) ((Below.refl _ _).alloc (Nat.le_refl _) _))
theorem loadC_exec (T : TypeId) (x : Operand) (ho : o.op = .load T x) (b : Nat) (cs : Array Value) (d : TypeDesc) (hu : P.underlying T = some d) (hd : (match d with | .struct _ | .array _ _ => true | _ => false) = true) (hi : (P.info? T).map (·.size) = some cs.size)
  (hx : a.eval x = .pointer (some ⟨b, 0, none⟩)) (i : CB w b T cs) : (execOp a.eval o).run P w = .ok (.value (.agg cs)) w := by
 have e := i.load (P := P) T d hu hd hi
 unfold execOp
 simp only [ho, hx, Instr.loadAt, Instr.sureAddr, Sem.run_bind, Sem.run_pure, Result.andThen_ok, e]
theorem loadC (hg : Region.wanted o (yielded ops a.tmps) = true) (T : TypeId) (x : Operand) (ho : o.op = .load T x) (b : Nat) (cs : Array Value) (d : TypeDesc) (hu : P.underlying T = some d) (hd : (match d with | .struct _ | .array _ _ => true | _ => false) = true) (hi : (P.info? T).map (·.size) = some cs.size)
  (hx : a.eval x = .pointer (some ⟨b, 0, none⟩)) (i : CB w b T cs) (k : wpList P ops Q rest (a.put o.dst (.agg cs)) w) : wpList P ops Q (o :: rest) a w :=
 val_w hg (.agg cs) (loadC_exec T x ho b cs d hu hd hi hx i) k
theorem loadM_exec (T : TypeId) (x : Operand) (ho : o.op = .load T x) (b k : Nat) (vs : List Value) (d : TypeDesc) (hu : P.underlying T = some d) (hd : d.isRow = true) (hi : (P.info? T).map (·.size) = some vs.length)
  (hx : a.eval x = .pointer (some ⟨b, k, none⟩)) (hr : w.rangeAt b k vs) : (execOp a.eval o).run P w = .ok (.value (.agg vs.toArray)) w := by
 have e := run_loadVar_mid (P := P) w b k T vs d hr hu hd hi
 unfold execOp
 simp only [ho, hx, Instr.loadAt, Instr.sureAddr, Sem.run_bind, Sem.run_pure, Result.andThen_ok, e]
theorem load1_exec (T : TypeId) (x : Operand) (ho : o.op = .load T x) (b k : Nat) (v : Value) (d : TypeDesc) (hu : P.underlying T = some d) (hd : (match d with | .struct _ | .array _ _ => true | _ => false) = false)
  (hx : a.eval x = .pointer (some ⟨b, k, none⟩)) (hc : w.cell? ⟨b, k, none⟩ = some v) : (execOp a.eval o).run P w = .ok (.value v) w := by
 have hagg : (isAgg T).run P w = .ok false w := by
  unfold isAgg
  rw [Sem.run_bind, run_underlying hu w]
  cases d <;> simp_all
 unfold execOp
 simp only [ho, hx, Instr.loadAt, Instr.sureAddr, Sem.run_bind, Sem.run_pure, Result.andThen_ok]
 have hl : (loadVar T ⟨b, k, none⟩).run P w = .ok v w := by simp [loadVar, Sem.run_bind, hagg, hc]
 rw [hl]
 rfl
end
section
variable {ops : Array Oper} {rest : List Oper} {o : Oper} {a : Act} {w : World} {Q : Exit -> Act -> World -> Prop}
theorem storeA {W : World} (hg : o.guard = none) (x y : Operand) (ho : o.op = .store 160 x y) (h : Ath) (hl : h.host.six.length = 8) (hW : W = w.alloc (.cells (aCells A0) 160)) (hx : a.eval x = .pointer (some ⟨w.heap.size, 0, none⟩)) (hy : a.eval y = .agg (aCells h))
  (k : ∀ w', CB w' w.heap.size 160 (aCells h) -> Below w.heap.size w w' -> wpList Tryz.prog ops Q rest (a.put o.dst undef) w') : wpList Tryz.prog ops Q (o :: rest) a W :=
 storeC hg _ x y ho (aCells h) (aCells A0) (by rw [ath_size hl]; exact ath_info) (by rw [ath_size hl]; rfl) (all_oneCell_toArray ath_one) hW hx hy k
end
theorem ath_six {sch l : Bytes} : ((authF sch l).getD A0).host.six.length = 8 := by
 cases h : authF sch l with
 | none => rfl
 | some a =>
  obtain ⟨⟨n, hh, _⟩, _⟩ := auth_ok h
  exact (hkind_ok (hkind hh)).l
end Go.Proofs.YtpckaimpjccjhaaGreatDoor
