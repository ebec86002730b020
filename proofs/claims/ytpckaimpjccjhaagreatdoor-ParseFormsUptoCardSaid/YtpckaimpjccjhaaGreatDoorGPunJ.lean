/- PunJ PunK PunX: joined. -/
import Derived.Lib.LazyBuf
import Derived.Test.YtpckaimpjccjhaaGreatDoorGSlic
import Derived.Test.YtpckaimpjccjhaaGreatDoorShelf
set_option maxHeartbeats 40000000
namespace Go.Proofs.YtpckaimpjccjhaaGreatDoor
open Go.RowKit
set_option maxRecDepth 10000
def RetI (w : World) (base : Nat) (l : List Int) : Ending -> World -> Prop := fun en w' =>
 ∃ v', en = .returned v' ∧ w'.ownsRow base 3 1 v' l.length (I64s l) ∧ w.heap.size <= w'.heap.size ∧ Below base w w'
theorem own_of_rowIs {w : World} {b t cap n base : Nat} {f : Nat -> Value} {xs : List Value} (h : w.rowIs b t cap f) (hb : base <= b) (hn : n <= cap) (hm : cap <= maxLen) (hx : xs.length = n) (hf : ∀ j, j < n -> some (f j) = xs[j]?) :
  w.ownsRow base t 1 (.slice (some ⟨b, 0, none⟩) n cap) n xs := by
 obtain ⟨c, hc, hs, hcf⟩ := h
 refine ⟨by omega, .inr ⟨b, cap, c, rfl, hb, hc, hn, hm, by omega, ?_⟩⟩
 apply List.ext_getElem?
 intro j
 rw [List.getElem?_take]
 split
 ·rw [Array.getElem?_toList, hcf j (by omega), hf j (by omega)]
 ·rw [List.getElem?_eq_none (by omega)]
theorem rowIs_own {w : World} {base t n : Nat} {g : Nat} {cap : Nat} {xs : List Value} (h : w.ownsRow base t 1 (.slice (some ⟨g, 0, none⟩) n cap) n xs) :
  ∃ f, w.rowIs g t cap f ∧ base <= g ∧ n <= cap ∧ cap <= maxLen ∧ ∀ j, j < n -> some (f j) = xs[j]? := by
 obtain ⟨hl, h⟩ := h
 rcases h with ⟨e, _⟩ | ⟨g', cap', cur, e, hb, hg, hn, hm, hs, ht⟩
 ·simp at e
 ·injection e with e1 e2 e3
  injection e1 with e1
  injection e1 with e1
  subst e1; subst e3
  refine ⟨fun j => cur[j]?.getD undef, ⟨cur, hg, by omega, fun j hj => ?_⟩, hb, hn, hm, fun j hj => ?_⟩
  ·have e := Array.getElem?_eq_getElem (xs := cur) (i := j) (by omega)
   simp [e]
  ·have e := Array.getElem?_eq_getElem (xs := cur) (i := j) (by omega)
   rw [<- ht, List.getElem?_take, if_pos (by omega), Array.getElem?_toList]
   simp [e]
theorem ins_at {α : Type} (l : List α) (x : α) (i j : Nat) (hi : i <= l.length) : (l.take i ++ x :: l.drop i)[j]? = if j < i then l[j]? else if j = i then some x else l[j - 1]? := by
 by_cases h : j < i
 ·rw [if_pos h, List.getElem?_append_left (by rw [List.length_take]; omega), List.getElem?_take, if_pos h]
 ·rw [if_neg h, List.getElem?_append_right (by rw [List.length_take]; omega), List.length_take, Nat.min_eq_left hi]
  by_cases h2 : j = i
  ·subst h2; simp
  ·rw [if_neg h2]
   obtain ⟨k, rfl⟩ : ∃ k, j = i + 1 + k := ⟨j - i - 1, by omega⟩
   rw [show i + 1 + k - i = k + 1 by omega, List.getElem?_cons_succ, List.getElem?_drop]
   congr 1
   omega
theorem own_made (w : World) (base e : Nat) (xs : List Value) (n G : Nat) (hn : n = xs.length) (hG : n <= G) (hm : G <= maxLen) (hb : base <= w.heap.size) :
  (w.alloc (.cells (xs.toArray ++ Builtin.zeroCells (Value.int .i64 0).cells (G - n)) e)).ownsRow base e 1 (.slice (some ⟨w.heap.size, 0, none⟩) n G) n xs := by
 refine ⟨by omega, .inr ⟨w.heap.size, G, _, rfl, hb, heap_alloc_new w _, hG, hm, ?_, ?_⟩⟩
 ·rw [Array.size_append, size_zeroCells]
  simp [Value.cells]
  omega
 ·rw [Array.toList_append, List.take_append_of_le_length (by simp; omega)]
  simp [hn]
theorem rowIs_arr (w : World) (c : Array Value) (t n : Nat) (hn : c.size = n) : ∃ f, (w.alloc (.cells c t)).rowIs w.heap.size t n f ∧ ∀ j, j < n -> some (f j) = c[j]? := by
 subst hn
 have h : ∀ j, j < c.size -> some (c[j]?.getD undef) = c[j]? := fun j hj => by simp [Array.getElem?_eq_getElem hj]
 exact ⟨fun j => c[j]?.getD undef, World.rowIs_alloc w c t _ (fun j hj => (h j hj).symm), h⟩
theorem arr_size (a : List Value) (k m n : Nat) (h : a.length + k + m = n) : (a.toArray ++ Builtin.zeroCells (Value.int .i64 0).cells k ++ Builtin.zeroCells (Value.int .i64 0).cells m).size = n := by
 rw [Array.size_append, Array.size_append, size_zeroCells, size_zeroCells]
 simp [Value.cells]
 exact h
theorem arr_at {cs : List Value} {i j : Nat} (B C : Array Value) (h : j < i) (hi : i <= cs.length) : ((List.take i cs).toArray ++ B ++ C)[j]? = cs[j]? := by
 rw [<- Array.getElem?_toList, Array.toList_append, Array.toList_append, List.getElem?_append_left (by simp; omega), List.getElem?_append_left (by simp; omega)]
 simp [h]
theorem ins_f (cs : List Value) (u : Value) (i j : Nat) (f : Nat -> Value) (hi : i <= cs.length) (hj : j < cs.length + 1) (hf : j < i -> some (f j) = cs[j]?) :
  some (if i + 1 <= j ∧ j < i + 1 + (List.drop i cs).length then (List.drop i cs)[j - (i + 1)]?.getD default else if i <= j ∧ j < i + [u].length then [u][j - i]?.getD default else f j) =
   if j < i then cs[j]? else if j = i then some u else cs[j - 1]? := by
 by_cases h1 : j < i
 ·rw [if_neg (by omega), if_neg (by omega), if_pos h1, hf h1]
 ·by_cases h2 : j = i
  ·subst h2
   rw [if_neg (by omega), if_pos (by simp), if_neg (by omega), if_pos rfl]
   simp
  ·rw [if_pos (by rw [List.length_drop]; omega), if_neg h1, if_neg h2, List.getElem?_drop, show i + (j - (i + 1)) = j - 1 by omega, List.getElem?_eq_getElem (by omega)]
   rfl
theorem ins_g (cs : List Value) (u : Value) (i j : Nat) (f : Nat -> Value) (hi : i <= cs.length) (hj : j < cs.length + 1) (hf : j < i -> some (f j) = cs[j]?) :
  some (if i <= j ∧ j < i + [u].length then [u][j - i]?.getD default else if i + 1 <= j ∧ j < i + 1 + (List.drop i cs).length then (List.drop i cs)[j - (i + 1)]?.getD default else f j) =
   if j < i then cs[j]? else if j = i then some u else cs[j - 1]? := by
 rw [<- ins_f cs u i j f hi hj hf]
 by_cases h1 : i + 1 <= j ∧ j < i + 1 + (List.drop i cs).length
 ·rw [if_neg (by simp; omega), if_pos h1, if_pos h1]
 ·rw [if_neg h1, if_neg h1]
theorem ins_len {α : Type} (l : List α) (x : α) (i : Nat) (hi : i <= l.length) : (l.take i ++ x :: l.drop i).length = l.length + 1 := by
 rw [List.length_append, List.length_take, List.length_cons, List.length_drop]; omega
theorem insert_any (l : List Int) (x : Int) (i : Nat) (v : Value) (base : Nat) (w : World) (h : w.ownsRow base 3 1 v l.length (I64s l)) (hb : base <= w.heap.size) (hi : i <= l.length) (hl : l.length <= 1000) :
  Calls Tryz.prog 243 #[v, .int .i64 i, .slice (some ⟨w.heap.size, 0, none⟩) 1 1] (w.alloc (.cells #[.int .i64 x] 3)) fun e w' => RetI w base (l.take i ++ x :: l.drop i) e w' := by
 have hlen := ins_len l x i hi
 have hcl : (I64s l).length = l.length := by simp
 have hvs : ∀ j u, [Value.int .i64 x][j]? = some u -> (w.alloc (.cells #[.int .i64 x] 3)).cell? ⟨w.heap.size, 0 + j, none⟩ = some u := by
  intro j u hj
  match j, hj with
  | 0, hj => simp at hj; subst hj; rw [World.cell?_alloc_mark]; rfl
 have h1v : ∀ u ∈ [Value.int .i64 x], u.oneCell' = true := by intro u hu; simp at hu; subst hu; rfl
 have h1c : ∀ u ∈ I64s l, u.oneCell' = true := by intro u hu; simp at hu; obtain ⟨_, _, rfl⟩ := hu; rfl
 have hbW : Below base w (w.alloc (.cells #[.int .i64 x] 3)) := (Below.refl _ _).alloc hb _
 have hzW : (w.alloc (.cells #[.int .i64 x] 3)).heap.size = w.heap.size + 1 := by simp
 have hA := h.alloc (.cells #[.int .i64 x] 3)
 have hlt := h.lt
 have hins : ∀ j, (I64s (l.take i ++ x :: l.drop i))[j]? = if j < i then (I64s l)[j]? else if j = i then some (.int .i64 x) else (I64s l)[j - 1]? := by
  intro j
  rw [List.getElem?_map, ins_at l x i j hi]
  split
  ·rw [List.getElem?_map]
  split
  ·rfl
  ·rw [List.getElem?_map]
 generalize hW : w.alloc (.cells #[.int .i64 x] 3) = W at *
 have hend : ∀ (bs : Option Addr) (c : Nat), l.length <= c -> c < l.length + 1 -> i = l.length -> (bs = none -> l.length = 0) -> (∀ a, bs = some a -> ∀ j u, (I64s l)[j]? = some u -> W.cell? (a.add j) = some u) ->
   Calls Tryz.prog 243 #[.slice bs l.length c, .int .i64 i, .slice (some ⟨w.heap.size, 0, none⟩) 1 1] W fun e w' => RetI w base (l.take i ++ x :: l.drop i) e w' := by
  intro bs' c h1 h2 h3 h4 h5
  subst h3
  have hc1 : l.length + 1 <= grownCap W (l.length + 1) c 3 := grownCap_ge _ _ _ _
  have hc2 : grownCap W (l.length + 1) c 3 <= maxLen := grownCap_le_maxLen _ _ _ _ (by unfold maxLen; omega)
  have hc := Any2.slices_Insert_int_end_grow Tryz.laysIns bs' l.length c w.heap.size 0 1 1 (I64s l) [.int .i64 x] W (by omega) h1 h2 (by omega) hcl rfl h4 h5 hvs h1v
  refine (show Calls Tryz.prog 243 _ W _ from hc).mono ?_
  rintro e w' ⟨rfl, rfl⟩
  refine ⟨_, rfl, ?_, by simp [hzW]; omega, (hbW.drew).alloc (by simp [hzW]; omega) _⟩
  rw [hlen, List.take_length, List.drop_length, show I64s (l ++ [x]) = I64s l ++ [Value.int .i64 x] by simp]
  exact own_made W.drew base 3 (I64s l ++ [.int .i64 x]) (l.length + 1) _ (by simp) hc1 hc2 (by show base <= W.heap.size; omega)
 rcases h.2 with ⟨rfl, h0⟩ | ⟨g, cap, cur, rfl, hbg, hg, hnc, hcm, hcs, hct⟩
 ·obtain rfl : l = [] := List.eq_nil_of_length_eq_zero h0
  exact hend none 0 (Nat.le_refl _) (by omega) (by simpa using hi) (fun _ => rfl) (by simp)
 ·obtain ⟨f, hf, _, _, _, hfx⟩ := rowIs_own hA
  have hcell : ∀ j u, (I64s l)[j]? = some u -> W.cell? ((⟨g, 0, none⟩ : Addr).add j) = some u := hA.cells rfl
  have hglt := hlt g rfl
  have hcell' : ∀ j u, (I64s l)[j]? = some u -> W.cell? ⟨g, 0 + j, none⟩ = some u := fun j u hj => by
   have := hcell j u hj
   rwa [addr_add] at this
  have hgne : w.heap.size ≠ g := by omega
  by_cases hroom : cap < l.length + 1
  ·by_cases hin : i = l.length
   ·exact hend (some ⟨g, 0, none⟩) cap hnc hroom hin (by simp) (fun a ha => by simp at ha; subst ha; exact hcell)
   ·have hc1 : l.length + 1 <= grownCap W (l.length + 1) cap 3 := grownCap_ge _ _ _ _
    have hc2 : grownCap W (l.length + 1) cap 3 <= maxLen := grownCap_le_maxLen _ _ _ _ (by unfold maxLen; omega)
    have hc := Any2.slices_Insert_int_grow Tryz.laysIns g 0 l.length cap i w.heap.size 0 1 1 (I64s l) [.int .i64 x] W (by omega) (by omega) hnc hroom (by omega) hcl rfl hcell' hvs h1c h1v
    refine (show Calls Tryz.prog 243 _ W _ from hc).mono ?_
    rintro e w' ⟨rfl, rfl⟩
    have hsz := arr_size (List.take i (I64s l)) (l.length + 1 - i) (grownCap W (l.length + 1) cap 3 - (l.length + 1)) (grownCap W (l.length + 1) cap 3) (by rw [List.length_take, hcl]; omega)
    obtain ⟨f0, r0, hf0⟩ := rowIs_arr W _ 3 _ hsz
    have r2 := Go.rowIs_setCells (List.drop i (I64s l)) (i + 1) _ _ (Go.rowIs_setCells [.int .i64 x] i _ _ r0.drew).drew
    have hfin := fun (o : Obj) => Go.below_setCells (B := base) (b := W.heap.size) (by omega) (List.drop i (I64s l)) (i + 1) _ ((Go.below_setCells (B := base) (b := W.heap.size) (by omega) [.int .i64 x] i _ ((hbW.alloc (by omega) o).drew)).drew)
    refine ⟨_, rfl, ?_, ?_, ?_⟩
    ·rw [hlen]
     refine own_of_rowIs r2 (by omega) hc1 hc2 ((List.length_map _).trans hlen) (fun j hj => ?_)
     rw [hins j]
     exact ins_f (I64s l) (.int .i64 x) i j f0 (by omega) (by omega) (fun h => (hf0 j (by omega)).trans (arr_at _ _ h (by omega)))
    ·exact (hfin _).size
    ·exact hfin _
  ·have hsome : ∀ j, j < l.length + 1 -> (W.cell? ⟨g, 0 + j, none⟩).isSome = true := fun j hj => by rw [Nat.zero_add, hf.cell (by omega)]; rfl
   have hfroz : ∀ j, W.frozen? ⟨g, j, none⟩ = false := fun j => hf.frozen j
   have hr := Go.rowIs_setCells (List.drop i (I64s l)) (i + 1) _ _ hf.drew
   have hr := Go.rowIs_setCells [.int .i64 x] i _ _ hr
   by_cases hin : i = l.length
   ·subst hin
    have hsome' : ∀ j, j < 1 -> (W.cell? ⟨g, 0 + l.length + j, none⟩).isSome = true := fun j hj => by rw [hf.cell (by omega)]; rfl
    have hc := Any2.slices_Insert_int_end_room Tryz.laysIns g 0 l.length cap w.heap.size 0 1 1 [.int .i64 x] W (by omega) (by omega) (by unfold maxLen at hcm; omega) rfl (fun j hj => hsome' j hj) (fun j _ => hfroz _) hvs h1v
    refine (show Calls Tryz.prog 243 _ W _ from hc).mono ?_
    rintro e w' ⟨rfl, rfl⟩
    have hfin := Go.below_setCells (B := base) (b := g) hbg [.int .i64 x] (0 + l.length) _ hbW
    refine ⟨_, rfl, ?_, hfin.size, hfin⟩
    rw [hlen]
    have hr1 := Go.rowIs_setCells [.int .i64 x] (0 + l.length) _ _ hf
    refine own_of_rowIs hr1 hbg (by omega) hcm ((List.length_map _).trans hlen) (fun j hj => ?_)
    rw [hins j]
    by_cases h1 : j < l.length
    ·rw [if_neg (by omega), if_pos h1, hfx j h1]
    ·obtain rfl : j = l.length := by omega
     rw [if_pos (by simp), if_neg (by omega), if_pos rfl]
     simp
   ·have hgW : W.shape? g = some (3, cap) := by
     obtain ⟨c, h1, h2, _⟩ := hf
     unfold World.shape?
     rw [h1, <- h2]
    have hwW : W.shape? w.heap.size = some (3, 1) := by rw [<- hW]; unfold World.shape?; rw [heap_alloc_new]; rfl
    have hwf : ∀ j, W.frozen? ⟨w.heap.size, j, none⟩ = false := fun j => by rw [<- hW]; unfold World.frozen?; rw [heap_alloc_new]; simp
    have hc := Any2.slices_Insert_int_shift Tryz.laysIns g 0 l.length cap i w.heap.size 0 1 1 (I64s l) [.int .i64 x] W (by omega) (by omega) (by omega) (by unfold maxLen at hcm; omega) hgne hcl rfl hcell' hsome (fun j _ => hfroz _) hvs h1c h1v
     3 3 1 cap hwW hgW (by omega) (hwf _) (hwf _)
    refine (show Calls Tryz.prog 243 _ W _ from hc).mono ?_
    rintro e w' ⟨rfl, rfl⟩
    simp only [Nat.zero_add]
    have hfin := Go.below_setCells (B := base) (b := g) hbg [.int .i64 x] i _ (Go.below_setCells (B := base) (b := g) hbg (List.drop i (I64s l)) (i + 1) _ hbW.drew)
    refine ⟨_, rfl, ?_, hfin.size, hfin⟩
    rw [hlen]
    refine own_of_rowIs hr hbg (by omega) hcm ((List.length_map _).trans hlen) (fun j hj => ?_)
    rw [hins j]
    exact ins_g (I64s l) (.int .i64 x) i j f (by omega) (by omega) (fun h => hfx j (by omega))

def decGo : Nat -> Bytes -> List Int -> Int -> Int -> Int -> Bool -> Option (List Int)
 | 0, s, l, _, _, _, _ => if s.length = 0 then some l else none
 | f + 1, s, l, p, n, bias, first =>
  if s.length = 0 then some l
  else if (rd s bias).2 = 0 then none
  else if l.length = 255 ∨ ¬ sg (n + (p + (rd s bias).1) / (l.length + 1)) = true then none
  else decGo f (s.drop (rd s bias).2.toNat) (l.take ((p + (rd s bias).1) % (l.length + 1)).toNat ++ (n + (p + (rd s bias).1) / (l.length + 1)) :: l.drop ((p + (rd s bias).1) % (l.length + 1)).toNat)
   ((p + (rd s bias).1) % (l.length + 1) + 1) (n + (p + (rd s bias).1) / (l.length + 1)) (nb (rd s bias).1 (l.length + 1) first) false
theorem decGo_end (f : Nat) {s : Bytes} (h : s.length = 0) {l : List Int} {p n bias : Int} {first : Bool} : decGo f s l p n bias first = some l := by
 cases f with
 | zero => unfold decGo; rw [if_pos h]
 | succ f => unfold decGo; rw [if_pos h]
theorem decGo_more (f : Nat) {s : Bytes} (h : ¬ s.length = 0) {l : List Int} {p n bias : Int} {first : Bool} : decGo (f + 1) s l p n bias first =
  if (rd s bias).2 = 0 then none
  else if l.length = 255 ∨ ¬ sg (n + (p + (rd s bias).1) / (l.length + 1)) = true then none
  else decGo f (s.drop (rd s bias).2.toNat) (l.take ((p + (rd s bias).1) % (l.length + 1)).toNat ++ (n + (p + (rd s bias).1) / (l.length + 1)) :: l.drop ((p + (rd s bias).1) % (l.length + 1)).toNat)
   ((p + (rd s bias).1) % (l.length + 1) + 1) (n + (p + (rd s bias).1) / (l.length + 1)) (nb (rd s bias).1 (l.length + 1) first) false := by
 rw [decGo, if_neg h]
theorem all_snoc2 {l : Bytes} {k : Nat} (h : k < l.length) (ha : ∀ y ∈ l.take k, b2 y < 128) (hx : b2 l[k] < 128) : ∀ y ∈ l.take (k + 1), b2 y < 128 := by
 rw [List.take_succ_eq_append_getElem h]
 intro y hy
 rcases List.mem_append.mp hy with h | h
 ·exact ha y h
 ·simp at h; subst h; exact hx
def hyAt (s : Bytes) : Int := Lib.lastIndexByte (bs s) 45
def decF (s : Bytes) : Option (List Int) :=
 if 0 < hyAt s then
  if 255 < hyAt s then none
  else if (s.take (hyAt s).toNat).all (fun x => decide (b2 x < 128)) then decGo s.length (s.drop ((hyAt s).toNat + 1)) ((s.take (hyAt s).toNat).map b2) 0 128 72 true else none
 else decGo s.length s [] 0 128 72 true
theorem hyAt_range (s : Bytes) : hyAt s = -1 ∨ ∃ k : Nat, k < s.length ∧ hyAt s = k := by
 unfold hyAt Lib.lastIndexByte
 rcases Lib.lastIdx_spec (bs s) 45 (bs s).size with ⟨h, _⟩ | ⟨i, h1, h2, _⟩
 ·exact .inl h
 ·exact .inr ⟨i, by rwa [bs_size] at h1, h2⟩
def RetD (w : World) (o : Option (List Int)) : Ending -> World -> Prop := fun en w' =>
 ∃ v, en = .returned (.tuple #[v, .bool o.isSome]) ∧ w'.ownsRow w.heap.size 3 1 v (o.getD []).length (I64s (o.getD [])) ∧ w.heap.size <= w'.heap.size ∧ Below w.heap.size w w'
theorem RetD.none {w w' : World} {o : Option (List Int)} (h : o = none) (hz : w.heap.size <= w'.heap.size) (hb : Below w.heap.size w w') : RetD w o (.returned (.tuple #[.slice Option.none 0 0, .bool false])) w' := by
 subst h
 exact ⟨_, rfl, World.ownsRow_nil _ _ _ _, hz, hb⟩
theorem RetD.some {w w' : World} {o : Option (List Int)} {l : List Int} {v : Value} {n : Nat} (h : o = some l) (hn : n = l.length) (ho : w'.ownsRow w.heap.size 3 1 v n (I64s l)) (hz : w.heap.size <= w'.heap.size) (hb : Below w.heap.size w w') :
  RetD w o (.returned (.tuple #[v, .bool true])) w' := by
 subst h; subst hn
 exact ⟨_, rfl, ho, hz, hb⟩
theorem rdGo_len : ∀ (l : Bytes) (j : Nat) (s w b : Int), (rdGo l j s w b).2 = 0 ∧ (rdGo l j s w b).1 = 0 ∨ (j : Int) + 1 <= (rdGo l j s w b).2 ∧ (rdGo l j s w b).2 <= j + l.length ∧ (rdGo l j s w b).1 <= 2147483647
 | [], _, _, _, _ => .inl ⟨rfl, rfl⟩
 | x :: r, j, s, w, b => by
  unfold rdGo
  simp only
  split
  ·exact .inl ⟨rfl, rfl⟩
  split
  ·exact .inl ⟨rfl, rfl⟩
  split
  ·right
   simp only [List.length_cons]
   omega
  ·have := rdGo_len r (j + 1) (s + wrt (b2 x) * w) (w * (36 - bnd j b)) b
   simp only [List.length_cons]
   omega
theorem rdGo_pos : ∀ (l : Bytes) (j : Nat) (s w b : Int), 0 <= s -> 0 <= w -> 0 <= (rdGo l j s w b).1
 | [], _, _, _, _, _, _ => Int.le_refl _
 | x :: r, j, s, w, b, hs, hw => by
  unfold rdGo
  simp only
  split
  ·exact Int.le_refl _
  ·have h1 := wrt_range (b2 x)
   have h2 : 0 <= wrt (b2 x) * w := Int.mul_nonneg (by omega) hw
   have h3 := bnd_range j b
   split
   ·exact Int.le_refl _
   split
   ·show 0 <= s + _; omega
   ·exact rdGo_pos r (j + 1) _ _ b (by omega) (Int.mul_nonneg hw (by omega))
theorem rd_range (s : Bytes) (b : Int) : 0 <= (rd s b).1 ∧ (rd s b).1 <= 2147483647 ∧ 0 <= (rd s b).2 ∧ (rd s b).2 <= s.length := by
 have h1 := rdGo_len s 0 0 1 b
 have h2 := rdGo_pos s 0 0 1 b (by omega) (by omega)
 unfold rd
 omega
def lenS : Value -> Nat
 | .string s => s.size
 | _ => 0
theorem drop_str (t : Bytes) (n : Nat) : (bs t).extract n (bs t).size = bs (t.drop n) := by
 rw [bs_extract, bs_size]
 congr 1
 exact List.take_of_length_le (by rw [List.length_drop]; exact Nat.le_refl _)
theorem decode_core (s0 : Bytes) (w : World) (hs : s0.length <= 102400000) :
  Calls Tryz.prog 232 #[.string (bs s0)] w fun e w' => RetD w (decF s0) e w' := by
 obtain ⟨i0, hi0, hz0, hz1, hz2⟩ := info_parts i64_info
 obtain ⟨T, hT⟩ := ex_ (decF s0)
 rw [<- hT]
 have hi := hyAt_range s0
 have hlib := fun W => Any.strings_LastIndexByte Tryz.laysLib (bs s0) 45 (by rw [bs_size]; omega) W
 unfold decF at hT
 obtain ⟨h, hh⟩ := ex_ (hyAt s0)
 have hlib2 : ∀ W, Calls Tryz.prog 184 #[.string (bs s0), .int .u8 45] W fun e w' => e = .returned (.int .i64 h) ∧ w' = W := by rw [hh]; exact hlib
 rw [<- hh] at hT hi
 have HT := h_ hT; clear hT
 have HLIB := h_ hlib2; clear hlib2 hlib hh
 obtain ⟨s, hss⟩ := ex_ (bs s0)
 have hsz : s.size = s0.length := by rw [hss, bs_size]
 obtain ⟨L, hL⟩ := ex_ (s0.length)
 rw [<- hL] at hs hsz hi
 rw [<- hss]
 rw [<- hss] at HLIB
 have HL := h_ hL; clear hL
 have HS := h_ hss; clear hss
 have hc : h <= 0 ∨ (0 < h ∧ 255 < h) ∨ (0 < h ∧ h <= 255) := by omega
 rcases hc with hc | ⟨hc, hd⟩ | ⟨hc, hd⟩
 ·have hT := HT.out
  rw [if_neg (by omega)] at hT
  have HT2 := h_ hT; clear hT HT
  go_enter Tryz.func232, Tryz.ntmps232
  go_wp2_with (first
   | (go_at_call 184; refine (HLIB.out _).mono ?_; rintro e w2 ⟨rfl, hw2⟩; subst w2)
   | fail)
  go_loopw [0, 4, 7, 8, 9, 10] (fun sv lv pv nv bv fv wr => ∃ (f : Nat) (t : Bytes) (l : List Int) (p n bi : Int) (fi : Bool), sv = .string (bs t) ∧ pv = .int .i64 p ∧ nv = .int .i64 n ∧ bv = .int .i64 bi ∧ fv = .bool fi ∧
    wr.ownsRow w.heap.size 3 1 lv l.length (I64s l) ∧ T = decGo f t l p n bi fi ∧ t.length <= f ∧ f <= 102400000 ∧ l.length <= 255 ∧ 0 <= p ∧ p <= 256 ∧ 128 <= n ∧ n <= 1114111 ∧ 0 <= bi ∧ bi <= 2400 ∧ w.heap.size <= wr.heap.size ∧ Below w.heap.size w wr) (fun sv _ _ _ _ _ _ => lenS sv)
  case atStart => exact ⟨L, s0, [], 0, 128, 72, true, by rw [HS.out], rfl, rfl, rfl, rfl, World.ownsRow_nil _ _ _ _, by rw [HL.out]; exact HT2.out, by rw [HL.out]; exact Nat.le_refl _, hs, by simp, by omega, by omega, by omega, by omega, by omega, by omega, Nat.le_refl _, Below.refl _ _⟩
  case round =>
   obtain ⟨f, t, l, p, n, bi, fi, rfl, rfl, rfl, rfl, rfl, hown, hT3, htf, hf1, hll, hp0, hp1, hn0, hn1, hb0, hb1, hwz, hbel⟩ := hrel
   have HO := h_ hown; clear hown
   have HB := h_ hbel; clear hbel
   by_cases ht : t.length = 0
   ·rw [decGo_end f ht] at hT3
    have hemp : (bs t).toList.isEmpty = true := by rw [toList_bs, List.eq_nil_of_length_eq_zero ht]; rfl
    have HT3 := h_ hT3; clear hT3
    clear ht htf
    go_wp2
    go_ret2
    exact RetD.some HT3.out rfl HO.out hwz HB.out
   ·cases f with
    | zero => omega
    | succ g =>
     rw [decGo_more g ht] at hT3
     have hemp : (bs t).toList.isEmpty = false := by
      rw [toList_bs]
      cases t with
      | nil => simp at ht
      | cons y r => rfl
     have hrr := rd_range t bi
     have hra := fun W => read_any (bs t) bi W (by rw [bs_size]; omega) (by omega)
     rw [ls_bs] at hra
     have hdr := drop_str t (rd t bi).2.toNat
     obtain ⟨d, hd'⟩ : ∃ d, d = (rd t bi).1 := ⟨_, rfl⟩
     obtain ⟨k, hk'⟩ : ∃ k, k = (rd t bi).2 := ⟨_, rfl⟩
     rw [<- hd', <- hk'] at hT3 hrr hra
     rw [<- hk'] at hdr
     clear hd' hk'
     have htl : (bs t).size = t.length := bs_size t
     obtain ⟨tl, htl'⟩ : ∃ tl, tl = t.length := ⟨_, rfl⟩
     rw [<- htl'] at htl htf hrr
     have HTL := h_ htl'; clear htl' ht
     have HRA := h_ hra; clear hra
     by_cases hk0 : k = 0
     ·rw [if_pos hk0] at hT3
      have HT3 := h_ hT3; clear hT3 hdr
      subst hk0
      go_wp2_with (first
       | (go_at_call 241; refine (HRA.out _).mono ?_; rintro e w2 ⟨rfl, rfl⟩)
       | fail)
      go_ret2
      exact RetD.none HT3.out hwz HB.out
     ·rw [if_neg hk0] at hT3
      have hex : (bs t).extract k.toNat (bs t).size = bs (t.drop k.toNat) := hdr
      clear hdr
      obtain ⟨m, hm⟩ : ∃ m : Nat, m = l.length := ⟨_, rfl⟩
      rw [<- hm] at hT3 hll
      have hlen : l.length = m := hm.symm
      have HM := h_ hm; clear hm
      have hq1 : Int.tdiv (p + d) (m + 1) = (p + d) / (m + 1) := tdiv_pos (by omega)
      have hq2 : Int.tmod (p + d) (m + 1) = (p + d) % (m + 1) := Int.tmod_eq_emod_of_nonneg (by omega)
      have hq3 : 0 <= (p + d) / (m + 1) ∧ (p + d) / (m + 1) <= p + d := ⟨Int.ediv_nonneg (by omega) (by omega), Int.ediv_le_self _ (by omega)⟩
      have hq4 : 0 <= (p + d) % (m + 1) ∧ (p + d) % (m + 1) < m + 1 := ⟨Int.emod_nonneg _ (by omega), Int.emod_lt_of_pos _ (by omega)⟩
      obtain ⟨dv, hdv⟩ := ex_ ((p + d) / ((m : Int) + 1))
      obtain ⟨qn, hqn⟩ : ∃ qn : Nat, (p + d) % ((m : Int) + 1) = (qn : Int) := ⟨((p + d) % ((m : Int) + 1)).toNat, (Int.toNat_of_nonneg hq4.1).symm⟩
      rw [<- hdv] at hq1 hq3 hT3
      rw [hqn] at hq2 hq4 hT3
      rw [Int.toNat_natCast] at hT3
      clear hdv hqn
      obtain ⟨al, cl, hv⟩ := slice_val (Sl.of_own HO.out)
      rw [show (I64s l).length = m by rw [List.length_map, hlen]] at hv
      subst hv
      have hex2 : (bs t).extract k.toNat tl = bs (t.drop k.toNat) := by rw [<- htl]; exact hex
      have hsa := fun W => isSign_any (n + dv) W
      have hcs : m = 255 ∨ (m < 255 ∧ sg (n + dv) = false) ∨ (m < 255 ∧ sg (n + dv) = true) := by
       by_cases h5 : m = 255
       ·exact .inl h5
       ·cases hq : sg (n + dv)
        ·exact .inr (.inl ⟨by omega, rfl⟩)
        ·exact .inr (.inr ⟨by omega, rfl⟩)
      rcases hcs with hc | ⟨hc, hsg⟩ | ⟨hc, hsg⟩
      ·rw [if_pos (.inl hc)] at hT3
       have HT3 := h_ hT3; clear hT3 hsa
       subst hc
       go_wp2_with (first
        | (go_at_call 241; refine (HRA.out _).mono ?_; rintro e w2 ⟨rfl, rfl⟩)
        | fail)
       go_ret2
       exact RetD.none HT3.out hwz HB.out
      ·rw [if_pos (.inr (by rw [hsg]; simp))] at hT3
       rw [hsg] at hsa
       have HSA := h_ hsa; clear hsa hsg
       have HT3 := h_ hT3; clear hT3
       go_wp2_with (first
        | (go_at_call 241; refine (HRA.out _).mono ?_; rintro e w2 ⟨rfl, rfl⟩)
        | (go_at_call 242; refine (HSA.out _).mono ?_; rintro e w2 ⟨rfl, rfl⟩)
        | fail)
       go_ret2
       exact RetD.none HT3.out hwz HB.out
      ·rw [if_neg (by rw [hsg]; simp; omega)] at hT3
       have hsr := (sg_iff.mp hsg)
       rw [hsg] at hsa
       have HSA := h_ hsa; clear hsa hsg
       have HT3 := h_ hT3; clear hT3
       have hil := ins_len l (n + dv) qn (by omega)
       have hin := insert_any l (n + dv) qn _ w.heap.size wr HO.out hwz (by omega) (by omega)
       have HIN := h_ hin; clear hin
       have HSR := h_ hsr.2.1; clear hsr
       rw [hlen] at hil
       obtain ⟨l2, hl2⟩ := ex_ (l.take qn ++ (n + dv) :: l.drop qn)
       rw [<- hl2] at hil HIN HT3
       clear hl2
       have HIL := h_ hil; clear hil
       go_wp2_with (first
        | (go_at_call 241; refine (HRA.out _).mono ?_; rintro e w2 ⟨rfl, rfl⟩)
        | (go_at_call 242; refine (HSA.out _).mono ?_; rintro e w2 ⟨rfl, rfl⟩)
        | (go_at_call 243; refine (HIN.out).mono ?_; rintro e w3 ⟨v3, rfl, ho3, hz3, hb3⟩; have HO3 := h_ ho3; have HZ3 := h_ hz3; clear hz3; have HB3 := h_ hb3; clear hb3; obtain ⟨al3, cl3, hv3⟩ := slice_val (Sl.of_own ho3); rw [show (I64s l2).length = m + 1 by rw [List.length_map]; exact HIL.out] at hv3; subst hv3; clear ho3)
        | (go_at_call 244; refine (nextBias_any d (m + 1) fi _ (by omega) (by omega)).mono ?_; rintro e w4 ⟨rfl, rfl⟩)
        | fail)
       have hnb := nb_range (d := d) (n := (m : Int) + 1) fi hrr.1 (by omega)
       have HNB := h_ hnb; clear hnb
       go_roundw
       case rel =>
        refine ⟨g, t.drop k.toNat, l2, qn + 1, n + dv, nb d (m + 1) fi, false, rfl, rfl, rfl, rfl, rfl, by rw [HIL.out]; have := HO3.out; rw [HIL.out] at this; exact this, HT3.out, ?_, by omega, by rw [HIL.out]; omega, by omega, by omega, by omega, HSR.out, HNB.out.1, HNB.out.2, by have := HZ3.out; omega, HB.out.trans HB3.out⟩
        rw [List.length_drop, <- HTL.out]
        omega
       case measure =>
        have e := HTL.out
        show (bs (t.drop k.toNat)).size < (bs t).size
        rw [bs_size, bs_size, List.length_drop]
        omega
 ·have hT := HT.out
  rw [if_pos (by omega), if_pos (by omega)] at hT
  have HT2 := h_ hT; clear hT HT
  go_enter Tryz.func232, Tryz.ntmps232
  go_wp2_with (first
   | (go_at_call 184; refine (HLIB.out _).mono ?_; rintro e w2 ⟨rfl, hw2⟩; subst w2)
   | fail)
  go_ret2
  exact RetD.none HT2.out (Nat.le_refl _) (Below.refl _ _)
 ·have hT := HT.out
  rw [if_pos (by omega), if_neg (by omega)] at hT
  obtain ⟨k0, hk0, hkh⟩ : ∃ k0 : Nat, k0 < L ∧ h = k0 := by
   rcases hi with hi | ⟨k0, h1, h2⟩
   ·omega
   ·exact ⟨k0, h1, h2⟩
  have htn : h.toNat = k0 := by omega
  have htn2 : (h + 1).toNat = k0 + 1 := by omega
  have hhl : h + 1 <= L := by omega
  rw [htn] at hT
  have HT2 := h_ hT; clear hT HT hi
  have hex : s.extract (k0 + 1) L = bs (s0.drop (k0 + 1)) := by
   have := drop_str s0 (k0 + 1)
   rw [<- HS.out, hsz] at this
   exact this
  rw [<- htn2] at hex
  have HEX := h_ hex; clear hex htn
  have HTN := h_ htn2; clear htn2
  have HKH := h_ hkh; clear hkh
  go_enter Tryz.func232, Tryz.ntmps232
  go_wp2_with (first
   | (go_at_call 184; refine (HLIB.out _).mono ?_; rintro e w2 ⟨rfl, hw2⟩; subst w2)
   | fail)
  go_loopw [4, 20] (fun lv iv wr => ∃ (k : Nat), k <= k0 ∧ iv = .int .i64 k ∧ wr.ownsRow w.heap.size 3 1 lv k (I64s ((s0.take k).map b2)) ∧ (∀ y ∈ s0.take k, b2 y < 128) ∧ w.heap.size <= wr.heap.size ∧ Below w.heap.size w wr) (fun _ i _ => k0 - (intOf i).toNat)
  case atStart => exact ⟨0, Nat.zero_le _, rfl, World.ownsRow_nil _ _ _ _, by simp, Nat.le_refl _, Below.refl _ _⟩
  case round =>
   obtain ⟨k, hk, rfl, hown, hall, hwz, hbel⟩ := hrel
   have HO := h_ hown; clear hown
   have HA := h_ hall; clear hall
   have HB := h_ hbel; clear hbel
   by_cases hlt : (k : Int) < h
   ·have hlt2 : k < k0 := by have := HKH.out; omega
    have hk2 : k < s.size := by omega
    have hx : k < s0.length := by rw [<- HL.out]; omega
    have hxe : ((s[k]'hk2).toNat : Int) = b2 s0[k] := str_at HS.out hk2 hx
    have hx8 := b2_lt s0[k]
    rw [<- hxe] at hx8
    have hsn : I64s ((s0.take (k + 1)).map b2) = I64s ((s0.take k).map b2) ++ [.int .i64 ((s[k]'hk2).toNat : Int)] := by
     rw [List.take_succ_eq_append_getElem hx, List.map_append, hxe]; simp
    have HSN := h_ hsn; clear hsn
    have hmem : s0[k] ∈ s0.take k0 := by
     rw [List.mem_take_iff_getElem]
     exact ⟨k, by omega, rfl⟩
    have hstep := all_snoc2 hx HA.out
    rw [<- hxe] at hstep
    have HST := h_ hstep; clear hstep
    have hw : IntKind.i64.wrap ((s[k]'hk2).toNat : Int) = ((s[k]'hk2).toNat : Int) := IntWalk.i64_in _ (by omega)
    have hcs : ((s[k]'hk2).toNat : Int) < 128 ∨ 128 <= ((s[k]'hk2).toNat : Int) := by omega
    rcases hcs with hc3 | hc3
    ·clear hxe hmem
     go_wp2_with (at_builtin; (refine push1 rfl (.tmp 27) (.tmp 32) _ rfl w.heap.size 3 i0 (.int .i64 0) 8 Tryz.underlying205 hi0 hz0 hz1 hz2 (by decide) _ _ k (I64s ((s0.take k).map b2)) rfl HO.out (.int .i64 ((s[k]'hk2).toNat : Int)) rfl rfl (by omega) (by decide) hwz ?_); intro v2 w2 hown2 hw2 hb2; have HO2 := h_ hown2; clear hown2; have HB2 := h_ hb2; clear hb2)
     go_roundw
     case rel => exact ⟨k + 1, hlt2, by simp, by rw [HSN.out]; exact HO2.out, HST.out hc3, by omega, HB.out.trans HB2.out⟩
     case measure => simp [intOf]; omega
    ·have hno : T = none := by
      rw [HT2.out, if_neg]
      intro ha
      have := of_decide_eq_true (List.all_eq_true.mp ha _ hmem)
      omega
     have HNO := h_ hno; clear hno hxe hmem
     go_wp2
     go_ret2
     exact RetD.none HNO.out hwz HB.out
   ·obtain rfl : k0 = k := by have := HKH.out; omega
    have hT := HT2.out
    rw [if_pos (List.all_eq_true.mpr fun y hy => decide_eq_true (HA.out y hy))] at hT
    have HT3 := h_ hT; clear hT HT2
    have hlen : ((s0.take k0).map b2).length = k0 := by rw [List.length_map, List.length_take, <- HL.out]; omega
    have hown0 := HO.out
    have HLN := h_ hlen; clear hlen
    have HOW := h_ hown0; clear hown0
    have hex := HEX.out
    have HBA := h_ HB.out
    have hwa := hwz
    go_wp2
    go_loopw [0, 4, 7, 8, 9, 10] (fun sv lv pv nv bv fv wr => ∃ (f : Nat) (t : Bytes) (l : List Int) (p n bi : Int) (fi : Bool), sv = .string (bs t) ∧ pv = .int .i64 p ∧ nv = .int .i64 n ∧ bv = .int .i64 bi ∧ fv = .bool fi ∧
      wr.ownsRow w.heap.size 3 1 lv l.length (I64s l) ∧ T = decGo f t l p n bi fi ∧ t.length <= f ∧ f <= 102400000 ∧ l.length <= 255 ∧ 0 <= p ∧ p <= 256 ∧ 128 <= n ∧ n <= 1114111 ∧ 0 <= bi ∧ bi <= 2400 ∧ w.heap.size <= wr.heap.size ∧ Below w.heap.size w wr) (fun sv _ _ _ _ _ _ => lenS sv)
    case atStart => exact ⟨L, s0.drop (k0 + 1), (s0.take k0).map b2, 0, 128, 72, true, by rw [HTN.out], rfl, rfl, rfl, rfl, by rw [HLN.out]; exact HOW.out, by rw [HL.out]; exact HT3.out, by rw [List.length_drop, <- HL.out]; omega, hs, by rw [HLN.out]; have := HKH.out; omega, by omega, by omega, by omega, by omega, by omega, by omega, hwa, HBA.out⟩
    case round =>
     obtain ⟨f, t, l, p, n, bi, fi, rfl, rfl, rfl, rfl, rfl, hown, hT3, htf, hf1, hll, hp0, hp1, hn0, hn1, hb0, hb1, hwz, hbel⟩ := hrel
     have HO := h_ hown; clear hown
     have HB := h_ hbel; clear hbel
     by_cases ht : t.length = 0
     ·rw [decGo_end f ht] at hT3
      have hemp : (bs t).toList.isEmpty = true := by rw [toList_bs, List.eq_nil_of_length_eq_zero ht]; rfl
      have HT3 := h_ hT3; clear hT3
      clear ht htf
      go_wp2
      go_ret2
      exact RetD.some HT3.out rfl HO.out hwz HB.out
     ·cases f with
      | zero => omega
      | succ g =>
       rw [decGo_more g ht] at hT3
       have hemp : (bs t).toList.isEmpty = false := by
        rw [toList_bs]
        cases t with
        | nil => simp at ht
        | cons y r => rfl
       have hrr := rd_range t bi
       have hra := fun W => read_any (bs t) bi W (by rw [bs_size]; omega) (by omega)
       rw [ls_bs] at hra
       have hdr := drop_str t (rd t bi).2.toNat
       obtain ⟨d, hd'⟩ : ∃ d, d = (rd t bi).1 := ⟨_, rfl⟩
       obtain ⟨k, hk'⟩ : ∃ k, k = (rd t bi).2 := ⟨_, rfl⟩
       rw [<- hd', <- hk'] at hT3 hrr hra
       rw [<- hk'] at hdr
       clear hd' hk'
       have htl : (bs t).size = t.length := bs_size t
       obtain ⟨tl, htl'⟩ : ∃ tl, tl = t.length := ⟨_, rfl⟩
       rw [<- htl'] at htl htf hrr
       have HTL := h_ htl'; clear htl' ht
       have HRA := h_ hra; clear hra
       by_cases hk0 : k = 0
       ·rw [if_pos hk0] at hT3
        have HT3 := h_ hT3; clear hT3 hdr
        subst hk0
        go_wp2_with (first
         | (go_at_call 241; refine (HRA.out _).mono ?_; rintro e w2 ⟨rfl, rfl⟩)
         | fail)
        go_ret2
        exact RetD.none HT3.out hwz HB.out
       ·rw [if_neg hk0] at hT3
        have hex : (bs t).extract k.toNat (bs t).size = bs (t.drop k.toNat) := hdr
        clear hdr
        obtain ⟨m, hm⟩ : ∃ m : Nat, m = l.length := ⟨_, rfl⟩
        rw [<- hm] at hT3 hll
        have hlen : l.length = m := hm.symm
        have HM := h_ hm; clear hm
        have hq1 : Int.tdiv (p + d) (m + 1) = (p + d) / (m + 1) := tdiv_pos (by omega)
        have hq2 : Int.tmod (p + d) (m + 1) = (p + d) % (m + 1) := Int.tmod_eq_emod_of_nonneg (by omega)
        have hq3 : 0 <= (p + d) / (m + 1) ∧ (p + d) / (m + 1) <= p + d := ⟨Int.ediv_nonneg (by omega) (by omega), Int.ediv_le_self _ (by omega)⟩
        have hq4 : 0 <= (p + d) % (m + 1) ∧ (p + d) % (m + 1) < m + 1 := ⟨Int.emod_nonneg _ (by omega), Int.emod_lt_of_pos _ (by omega)⟩
        obtain ⟨dv, hdv⟩ := ex_ ((p + d) / ((m : Int) + 1))
        obtain ⟨qn, hqn⟩ : ∃ qn : Nat, (p + d) % ((m : Int) + 1) = (qn : Int) := ⟨((p + d) % ((m : Int) + 1)).toNat, (Int.toNat_of_nonneg hq4.1).symm⟩
        rw [<- hdv] at hq1 hq3 hT3
        rw [hqn] at hq2 hq4 hT3
        rw [Int.toNat_natCast] at hT3
        clear hdv hqn
        obtain ⟨al, cl, hv⟩ := slice_val (Sl.of_own HO.out)
        rw [show (I64s l).length = m by rw [List.length_map, hlen]] at hv
        subst hv
        have hex2 : (bs t).extract k.toNat tl = bs (t.drop k.toNat) := by rw [<- htl]; exact hex
        have hsa := fun W => isSign_any (n + dv) W
        have hcs : m = 255 ∨ (m < 255 ∧ sg (n + dv) = false) ∨ (m < 255 ∧ sg (n + dv) = true) := by
         by_cases h5 : m = 255
         ·exact .inl h5
         ·cases hq : sg (n + dv)
          ·exact .inr (.inl ⟨by omega, rfl⟩)
          ·exact .inr (.inr ⟨by omega, rfl⟩)
        rcases hcs with hc | ⟨hc, hsg⟩ | ⟨hc, hsg⟩
        ·rw [if_pos (.inl hc)] at hT3
         have HT3 := h_ hT3; clear hT3 hsa
         subst hc
         go_wp2_with (first
          | (go_at_call 241; refine (HRA.out _).mono ?_; rintro e w2 ⟨rfl, rfl⟩)
          | fail)
         go_ret2
         exact RetD.none HT3.out hwz HB.out
        ·rw [if_pos (.inr (by rw [hsg]; simp))] at hT3
         rw [hsg] at hsa
         have HSA := h_ hsa; clear hsa hsg
         have HT3 := h_ hT3; clear hT3
         go_wp2_with (first
          | (go_at_call 241; refine (HRA.out _).mono ?_; rintro e w2 ⟨rfl, rfl⟩)
          | (go_at_call 242; refine (HSA.out _).mono ?_; rintro e w2 ⟨rfl, rfl⟩)
          | fail)
         go_ret2
         exact RetD.none HT3.out hwz HB.out
        ·rw [if_neg (by rw [hsg]; simp; omega)] at hT3
         have hsr := (sg_iff.mp hsg)
         rw [hsg] at hsa
         have HSA := h_ hsa; clear hsa hsg
         have HT3 := h_ hT3; clear hT3
         have hil := ins_len l (n + dv) qn (by omega)
         have hin := insert_any l (n + dv) qn _ w.heap.size wr HO.out hwz (by omega) (by omega)
         have HIN := h_ hin; clear hin
         have HSR := h_ hsr.2.1; clear hsr
         rw [hlen] at hil
         obtain ⟨l2, hl2⟩ := ex_ (l.take qn ++ (n + dv) :: l.drop qn)
         rw [<- hl2] at hil HIN HT3
         clear hl2
         have HIL := h_ hil; clear hil
         go_wp2_with (first
          | (go_at_call 241; refine (HRA.out _).mono ?_; rintro e w2 ⟨rfl, rfl⟩)
          | (go_at_call 242; refine (HSA.out _).mono ?_; rintro e w2 ⟨rfl, rfl⟩)
          | (go_at_call 243; refine (HIN.out).mono ?_; rintro e w3 ⟨v3, rfl, ho3, hz3, hb3⟩; have HO3 := h_ ho3; have HZ3 := h_ hz3; clear hz3; have HB3 := h_ hb3; clear hb3; obtain ⟨al3, cl3, hv3⟩ := slice_val (Sl.of_own ho3); rw [show (I64s l2).length = m + 1 by rw [List.length_map]; exact HIL.out] at hv3; subst hv3; clear ho3)
          | (go_at_call 244; refine (nextBias_any d (m + 1) fi _ (by omega) (by omega)).mono ?_; rintro e w4 ⟨rfl, rfl⟩)
          | fail)
         have hnb := nb_range (d := d) (n := (m : Int) + 1) fi hrr.1 (by omega)
         have HNB := h_ hnb; clear hnb
         go_roundw
         case rel =>
          refine ⟨g, t.drop k.toNat, l2, qn + 1, n + dv, nb d (m + 1) fi, false, rfl, rfl, rfl, rfl, rfl, by rw [HIL.out]; have := HO3.out; rw [HIL.out] at this; exact this, HT3.out, ?_, by omega, by rw [HIL.out]; omega, by omega, by omega, by omega, HSR.out, HNB.out.1, HNB.out.2, by have := HZ3.out; omega, HB.out.trans HB3.out⟩
          rw [List.length_drop, <- HTL.out]
          omega
         case measure =>
          have e := HTL.out
          show (bs (t.drop k.toNat)).size < (bs t).size
          rw [bs_size, bs_size, List.length_drop]
          omega
end Go.Proofs.YtpckaimpjccjhaaGreatDoor

namespace Go.Proofs.YtpckaimpjccjhaaGreatDoor
section
open Go.RowKit
set_option maxRecDepth 10000
theorem wrt_dig {d : Int} (h : 0 <= d ∧ d < 36) : wrt (dig d) = d := by
  unfold wrt dig
  by_cases h1 : d < 26
  · rw [if_pos h1, if_pos (by omega)]; omega
  · rw [if_neg h1, if_neg (by omega), if_neg (by omega), if_pos (by omega)]; omega
theorem wrt_db {d : Int} (h : 0 <= d ∧ d < 36) : wrt (b2 (db d)) = d := by rw [b2_db h, wrt_dig h]
theorem rdGo_digs : ∀ (f j : Nat) (d sum wt bias : Int) (rest : Bytes), 0 <= d -> d < 2 ^ f -> 1 <= wt -> sum + d * wt <= 2147483647 ->
    rdGo (dgGo f j d bias ++ rest) j sum wt bias = (sum + d * wt, (j : Int) + (dgGo f j d bias).length)
  | f, j, d, sum, wt, bias, rest, h0, hf, hw, hs => by
    have hb := bnd_range j bias
    by_cases hlt : d < bnd j bias
    · have hd : 0 <= d ∧ d < 36 := by omega
      rw [dgGo_last f j hlt]
      show rdGo (db d :: rest) j sum wt bias = _
      unfold rdGo
      simp only [wrt_db hd]
      rw [if_neg (by omega), if_neg (by omega), if_pos hlt]
      rfl
    · obtain ⟨g, rfl, hmo, hq⟩ := dgGo_more hlt hf h0
      rw [hmo]
      generalize hB : bnd j bias = b at *
      have hr : 0 <= (d - b) % (36 - b) ∧ (d - b) % (36 - b) < 36 - b := ⟨Int.emod_nonneg _ (by omega), Int.emod_lt_of_pos _ (by omega)⟩
      have hq0 : 0 <= (d - b) / (36 - b) := Int.ediv_nonneg (by omega) (by omega)
      have hc : 0 <= b + (d - b) % (36 - b) ∧ b + (d - b) % (36 - b) < 36 := by omega
      have hdm : (36 - b) * ((d - b) / (36 - b)) + (d - b) % (36 - b) = d - b := Int.mul_ediv_add_emod _ _
      have hdw : d * wt = (b + (d - b) % (36 - b)) * wt + (d - b) / (36 - b) * (wt * (36 - b)) := by
        have : d = (b + (d - b) % (36 - b)) + (36 - b) * ((d - b) / (36 - b)) := by omega
        conv => lhs; rw [this]
        rw [Int.add_mul, Int.mul_comm (36 - b) ((d - b) / (36 - b)), Int.mul_assoc, Int.mul_comm (36 - b) wt]
      have hpos : 0 <= (d - b) / (36 - b) * (wt * (36 - b)) := Int.mul_nonneg hq0 (Int.mul_nonneg (by omega) (by omega))
      have hwt : 1 <= wt * (36 - b) := by
        have := mul_ge (c := 36 - b) (wt := wt) (by omega) hw
        rw [Int.mul_comm] at this
        omega
      show rdGo (db (b + (d - b) % (36 - b)) :: (dgGo g (j + 1) ((d - b) / (36 - b)) bias ++ rest)) j sum wt bias = _
      unfold rdGo
      simp only [wrt_db hc, hB]
      rw [if_neg (by omega), if_neg (by omega), if_neg (by omega), rdGo_digs g (j + 1) _ _ _ bias rest hq0 hq hwt (by omega)]
      simp only [List.length_cons]
      refine Prod.ext ?_ ?_
      · show _ + _ = _; omega
      · show ((j + 1 : Nat) : Int) + _ = _; omega
theorem rd_digs {d bias : Int} (rest : Bytes) (h0 : 0 <= d) (h1 : d <= 2147483647) : rd (digs d bias ++ rest) bias = (d, ((digs d bias).length : Int)) := by
  have := rdGo_digs 40 0 d 0 1 bias rest h0 (by omega) (by omega) (by omega)
  unfold rd digs
  rw [this]
  refine Prod.ext ?_ ?_
  · show 0 + d * 1 = d; omega
  · show ((0 : Nat) : Int) + _ = _; omega
end
section
open Go.RowKit
set_option maxRecDepth 10000
def Hk (l : List Int) (n : Int) (k : Nat) : List Int := (l.take k).filter (fun c => decide (c <= n)) ++ (l.drop k).filter (fun c => decide (c < n))
def pk (l : List Int) (n : Int) (k : Nat) : Nat := ((l.take k).filter (fun c => decide (c <= n))).length
theorem pk_step {l : List Int} {k : Nat} (h : k < l.length) (n : Int) : pk l n (k + 1) = pk l n k + if l[k] <= n then 1 else 0 := by
  unfold pk
  rw [List.take_succ_eq_append_getElem h, List.filter_append, List.length_append]
  by_cases h2 : l[k] <= n
  · rw [if_pos h2, List.filter_cons_of_pos (by simpa using h2)]; rfl
  · rw [if_neg h2, List.filter_cons_of_neg (by simpa using h2)]; rfl
theorem Hk_same {l : List Int} {k : Nat} (h : k < l.length) {n : Int} (hn : l[k] ≠ n) : Hk l n (k + 1) = Hk l n k := by
  unfold Hk
  rw [List.take_succ_eq_append_getElem h, List.drop_eq_getElem_cons h, List.filter_append, List.append_assoc]
  congr 1
  by_cases h2 : l[k] < n
  · rw [List.filter_cons_of_pos (by simp; omega), List.filter_cons_of_pos (by simpa using h2)]; rfl
  · rw [List.filter_cons_of_neg (by simp; omega), List.filter_cons_of_neg (by simpa using h2)]; rfl
theorem Hk_ins {l : List Int} {k : Nat} (h : k < l.length) {n : Int} (hn : l[k] = n) : Hk l n (k + 1) = (Hk l n k).take (pk l n k) ++ n :: (Hk l n k).drop (pk l n k) := by
  have e : Hk l n k = (l.take k).filter (fun c => decide (c <= n)) ++ (l.drop (k + 1)).filter (fun c => decide (c < n)) := by
    unfold Hk
    rw [List.drop_eq_getElem_cons h, List.filter_cons_of_neg (by simp; omega)]
  rw [e]
  unfold pk
  rw [List.take_left', List.drop_left']
  · unfold Hk
    rw [List.take_succ_eq_append_getElem h, List.filter_append, List.filter_cons_of_pos (by simp; omega), hn, List.append_assoc]
    rfl
  · rfl
  · rfl
theorem Hk_end (l : List Int) (n : Int) : Hk l n l.length = Hk l (n + 1) 0 := by
  unfold Hk
  rw [List.take_length, List.drop_length, List.take_zero, List.drop_zero]
  simp only [List.filter_nil, List.append_nil, List.nil_append]
  refine List.filter_congr fun c _ => ?_
  simp only [decide_eq_decide]
  omega
theorem Hk_next {l : List Int} {n m : Int} (hm : n <= m) (h : ∀ c ∈ l, n <= c -> m <= c) : Hk l m 0 = Hk l n 0 := by
  unfold Hk
  rw [List.take_zero, List.drop_zero]
  congr 1
  refine List.filter_congr fun c hc => ?_
  have := h c hc
  simp only [decide_eq_decide]
  omega
theorem pk_le (l : List Int) (n : Int) (k : Nat) : pk l n k <= (Hk l n k).length := by unfold pk Hk; rw [List.length_append]; omega
theorem pk_end (l : List Int) (n : Int) : pk l n l.length = (Hk l n l.length).length := by
  unfold pk Hk
  rw [List.take_length, List.drop_length]
  simp
theorem Hk_all {l : List Int} {n : Int} (h : (Hk l n 0).length = l.length) : Hk l n 0 = l := by
  unfold Hk at *
  rw [List.take_zero, List.drop_zero] at *
  simp only [List.filter_nil, List.nil_append] at *
  exact List.filter_eq_self.mpr (List.length_filter_eq_length_iff.mp h)
end
section
open Go.RowKit
set_option maxRecDepth 10000
def isDg (y : UInt8) : Prop := (97 <= b2 y ∧ b2 y <= 122) ∨ (48 <= b2 y ∧ b2 y <= 57)
theorem db_dg {d : Int} (h : 0 <= d ∧ d < 36) : isDg (db d) := by
  unfold isDg
  rw [b2_db h]
  unfold dig
  split <;> omega
theorem dgGo_dg : ∀ (f j : Nat) (d bias : Int), 0 <= d -> d < 2 ^ f -> ∀ y ∈ dgGo f j d bias, isDg y
  | f, j, d, bias, h0, hf => by
    have hb := bnd_range j bias
    by_cases hlt : d < bnd j bias
    · rw [dgGo_last f j hlt]
      intro y hy
      simp at hy
      subst hy
      exact db_dg (by omega)
    · obtain ⟨g, rfl, hmo, hq⟩ := dgGo_more hlt hf h0
      rw [hmo]
      have hr : 0 <= (d - bnd j bias) % (36 - bnd j bias) ∧ (d - bnd j bias) % (36 - bnd j bias) < 36 - bnd j bias := ⟨Int.emod_nonneg _ (by omega), Int.emod_lt_of_pos _ (by omega)⟩
      intro y hy
      rcases List.mem_cons.mp hy with rfl | hy
      · exact db_dg (by omega)
      · exact dgGo_dg g (j + 1) _ bias (Int.ediv_nonneg (by omega) (by omega)) hq y hy
theorem digs_dg {d : Int} (bias : Int) (h0 : 0 <= d) (h1 : d < 1099511627776) : ∀ y ∈ digs d bias, isDg y := dgGo_dg 40 0 d bias h0 (by omega)
def thr : Nat -> Int
  | 0 => 26
  | k + 1 => 26 + 10 * thr k
theorem thr_ge : ∀ k, 26 <= thr k
  | 0 => by unfold thr; omega
  | k + 1 => by have := thr_ge k; unfold thr; omega
theorem thr_step {t d T : Int} (ht : 1 <= t ∧ t <= 26) (hT : 26 <= T) (hd : d < 26 + 10 * T) : (d - t) / (36 - t) < T := by
  refine Int.ediv_lt_of_lt_mul (by omega) ?_
  have h1 : T * (36 - t) = 36 * T - t * T := by rw [Int.mul_sub, Int.mul_comm T 36, Int.mul_comm T t]
  have h2 : 0 <= (26 - t) * (T - 1) := Int.mul_nonneg (by omega) (by omega)
  have h3 : (26 - t) * (T - 1) = 26 * T - 26 - (t * T - t) := by rw [Int.sub_mul, Int.mul_sub, Int.mul_sub]; omega
  omega
theorem dgGo_26 : ∀ (k f j : Nat) (d bias : Int), 0 <= d -> d < 2 ^ f -> d < thr k -> 26 <= 36 * ((j : Int) + 1) - bias -> (dgGo f j d bias).length <= k + 1
  | k, f, j, d, bias, h0, hf, hk, hj => by
    have hb := bnd_range j bias
    have hbe : bnd j bias = 26 := by unfold bnd; omega
    by_cases hlt : d < bnd j bias
    · rw [dgGo_last f j hlt]; simp
    · obtain ⟨g, rfl, hmo, hq⟩ := dgGo_more hlt hf h0
      rw [hmo, List.length_cons]
      cases k with
      | zero => unfold thr at hk; omega
      | succ k =>
        have hk2 : d < 26 + 10 * thr k := hk
        have := dgGo_26 k g (j + 1) _ bias (Int.ediv_nonneg (by omega) (by omega)) hq (thr_step hb (thr_ge k) hk2) (by omega)
        omega
def thA : Nat -> Int
  | 0 => 1
  | k + 1 => min (1 + 35 * thA k) (thr (k + 1))
theorem dgGo_thA : ∀ (k f j : Nat) (d bias : Int), 0 <= d -> d < 2 ^ f -> d < thA k -> (dgGo f j d bias).length <= k + 1
  | k, f, j, d, bias, h0, hf, hk => by
    have hb := bnd_range j bias
    by_cases hlt : d < bnd j bias
    · rw [dgGo_last f j hlt]; simp
    · obtain ⟨g, rfl, hmo, hq⟩ := dgGo_more hlt hf h0
      rw [hmo, List.length_cons]
      cases k with
      | zero => unfold thA at hk; omega
      | succ k =>
        have hk1 : d < min (1 + 35 * thA k) (thr (k + 1)) := hk
        have hk2 : d < 26 + 10 * thr k := by have : thr (k + 1) = 26 + 10 * thr k := rfl
                                             omega
        have hn : 0 <= (d - bnd j bias) / (36 - bnd j bias) := Int.ediv_nonneg (by omega) (by omega)
        by_cases hc : 36 * ((j : Int) + 1) - bias <= 1
        · have hbe : bnd j bias = 1 := by unfold bnd; omega
          have := dgGo_thA k g (j + 1) ((d - bnd j bias) / (36 - bnd j bias)) bias hn hq (by rw [hbe]; omega)
          omega
        · have := dgGo_26 k g (j + 1) _ bias hn hq (thr_step hb (thr_ge k) hk2) (by omega)
          omega
theorem digs_len8 {d : Int} (bias : Int) (h0 : 0 <= d) (h1 : d < 288888886) : (digs d bias).length <= 8 := by
  have h : thA 7 = 288888886 := by decide +kernel
  exact dgGo_thA 7 40 0 d bias h0 (by omega) (by omega)
end
section
open Go.RowKit
set_option maxRecDepth 10000
theorem dec_one {f : Nat} {d bias p0 n0 n : Int} {first : Bool} {l : List Int} {pos : Nat} (rest : Bytes) (h0 : 0 <= d) (h1 : d <= 2147483647) (hp : p0 + d = (n - n0) * (l.length + 1) + pos) (hpos : pos <= l.length) (hl : l.length < 255) (hn : sg n = true) :
    decGo (f + 1) (digs d bias ++ rest) l p0 n0 bias first = decGo f rest (l.take pos ++ n :: l.drop pos) (pos + 1) n (nb d (l.length + 1) first) false := by
  have hd := (digs_len d bias).1
  rw [decGo_more f (by rw [List.length_append]; omega), rd_digs rest h0 h1]
  have hq : (p0 + d) / ((l.length : Int) + 1) = n - n0 := by
    rw [hp, Int.add_comm, Int.add_mul_ediv_right _ _ (by omega), Int.ediv_eq_zero_of_lt (by omega) (by omega)]
    omega
  have hr : (p0 + d) % ((l.length : Int) + 1) = pos := by
    rw [hp, Int.add_comm, Int.add_mul_emod_self_right]
    exact Int.emod_eq_of_lt (by omega) (by omega)
  simp only [hq, hr, Int.toNat_natCast]
  rw [show n0 + (n - n0) = n by omega, if_neg (by omega), if_neg (by rw [hn]; simp; omega), List.drop_left]
theorem decGo_same : ∀ (f g : Nat) (s : Bytes) (l : List Int) (p n bias : Int) (first : Bool), s.length <= f -> s.length <= g -> decGo f s l p n bias first = decGo g s l p n bias first
  | 0, g, s, l, p, n, bias, first, h, _ => by rw [decGo_end 0 (by omega), decGo_end g (by omega)]
  | f + 1, 0, s, l, p, n, bias, first, _, h => by rw [decGo_end (f + 1) (by omega), decGo_end 0 (by omega)]
  | f + 1, g + 1, s, l, p, n, bias, first, h, h' => by
    by_cases h0 : s.length = 0
    · rw [decGo_end _ h0, decGo_end _ h0]
    · rw [decGo_more f h0, decGo_more g h0]
      have hr := rd_range s bias
      by_cases hk : (rd s bias).2 = 0
      · rw [if_pos hk, if_pos hk]
      · rw [if_neg hk, if_neg hk]
        rw [decGo_same f g _ _ _ _ _ _ (by rw [List.length_drop]; omega) (by rw [List.length_drop]; omega)]
def decA (s : Bytes) (l : List Int) (p n bias : Int) (first : Bool) : Option (List Int) := decGo s.length s l p n bias first
theorem decA_of {f : Nat} {s : Bytes} {l : List Int} {p n bias : Int} {first : Bool} (h : s.length <= f) : decGo f s l p n bias first = decA s l p n bias first := decGo_same _ _ _ _ _ _ _ _ h (Nat.le_refl _)
theorem decA_one {d bias p0 n0 n : Int} {first : Bool} {l : List Int} {pos : Nat} (rest : Bytes) (h0 : 0 <= d) (h1 : d <= 2147483647) (hp : p0 + d = (n - n0) * (l.length + 1) + pos) (hpos : pos <= l.length) (hl : l.length < 255) (hn : sg n = true) :
    decA (digs d bias ++ rest) l p0 n0 bias first = decA rest (l.take pos ++ n :: l.drop pos) (pos + 1) n (nb d (l.length + 1) first) false := by
  have hd := (digs_len d bias).1
  rw [<- decA_of (f := (digs d bias ++ rest).length + 1) (by omega), dec_one rest h0 h1 hp hpos hl hn, decA_of (by rw [List.length_append]; omega)]
end
section
open Go.RowKit
set_option maxRecDepth 10000
theorem Hk_le (l : List Int) (n : Int) (k : Nat) : (Hk l n k).length <= l.length := by
  unfold Hk
  have h1 := List.length_filter_le (fun c => decide (c <= n)) (l.take k)
  have h2 := List.length_filter_le (fun c => decide (c < n)) (l.drop k)
  have h3 : (l.take k).length + (l.drop k).length = l.length := by rw [<- List.length_append, List.take_append_drop]
  rw [List.length_append]
  omega
theorem dec_row (l : List Int) (n : Int) (hn : sg n = true) (hll : l.length <= 255) : ∀ (q k : Nat) (s : En) (p0 n0 : Int), k + q = l.length -> 0 <= n0 -> n0 <= n -> 0 <= p0 -> s.d = (n - n0) * (s.done + 1) + pk l n k - p0 -> s.done = (Hk l n k).length -> 0 <= s.d ->
    ∃ (W : Bytes) (p1 n1 : Int), (rowGo n (l.drop k) s).out = s.out ++ W ∧
      (∀ rest, decA (W ++ rest) (Hk l n k) p0 n0 s.bias s.first = decA rest (Hk l n l.length) p1 n1 (rowGo n (l.drop k) s).bias (rowGo n (l.drop k) s).first) ∧
      0 <= n1 ∧ n1 <= n ∧ 0 <= p1 ∧ (rowGo n (l.drop k) s).d = (n - n1) * ((rowGo n (l.drop k) s).done + 1) + pk l n l.length - p1 ∧ (rowGo n (l.drop k) s).done = (Hk l n l.length).length ∧ 0 <= (rowGo n (l.drop k) s).d ∧ (∀ y ∈ W, isDg y) ∧ (W.length : Int) <= 8 * ((rowGo n (l.drop k) s).done - s.done)
  | 0, k, s, p0, n0, hk, hn0, hnn, hp0, hd, hdn, h0 => by
    obtain rfl : k = l.length := by omega
    rw [List.drop_length]
    exact ⟨[], p0, n0, by show s.out = _; simp, fun rest => rfl, hn0, hnn, hp0, hd, hdn, h0, by simp, by show (0 : Int) <= 8 * (s.done - s.done); omega⟩
  | q + 1, k, s, p0, n0, hk, hn0, hnn, hp0, hd, hdn, h0 => by
    have hx : k < l.length := by omega
    have hps := pk_step hx n
    have hpl := pk_le l n k
    have hnr := sg_iff.mp hn
    rw [rowGo_step hx]
    obtain ⟨o, d, dn, bi, fi⟩ := s
    simp only at hd hdn h0 ⊢
    have hcs : l[k] < n ∨ l[k] = n ∨ n < l[k] := by omega
    rcases hcs with hc | hc | hc
    · rw [row_less hc]
      rw [if_pos (by omega)] at hps
      obtain ⟨W, p1, n1, h1, h2, h3, h4, h5, h6, h7, h8, h9, h10⟩ := dec_row l n hn hll q (k + 1) ⟨o, d + 1, dn, bi, fi⟩ p0 n0 (by omega) hn0 hnn hp0 (by simp only; omega) (by simp only; rw [Hk_same hx (by omega)]; exact hdn) (by simp only; omega)
      refine ⟨W, p1, n1, h1, fun rest => ?_, h3, h4, h5, h6, h7, h8, h9, h10⟩
      rw [<- h2 rest, Hk_same hx (by omega)]
    · rw [row_one hc]
      rw [if_pos (by omega)] at hps
      have hins := Hk_ins hx hc
      have hlen : (Hk l n (k + 1)).length = (Hk l n k).length + 1 := by rw [hins, List.length_append, List.length_take, List.length_cons, List.length_drop]; omega
      have hle := Hk_le l n (k + 1)
      have hmul := mul_bd2 (a := n - n0) (b := dn + 1) (by omega) (by omega)
      obtain ⟨W, p1, n1, h1, h2, h3, h4, h5, h6, h7, h8, h9, h10⟩ := dec_row l n hn hll q (k + 1) ⟨o ++ digs d bi, 0, dn + 1, nb d (dn + 1) fi, false⟩ (pk l n k + 1) n (by omega) (by omega) (Int.le_refl _) (by omega) (by simp only; rw [Int.sub_self, Int.zero_mul]; omega) (by simp only; omega) (Int.le_refl _)
      refine ⟨digs d bi ++ W, p1, n1, by rw [h1]; simp only; rw [List.append_assoc], fun rest => ?_, h3, h4, h5, h6, h7, h8, fun y hy => (List.mem_append.mp hy).elim (digs_dg bi h0 (by omega) y) (h9 y), by have := digs_len8 bi h0 (by omega); rw [List.length_append]; simp only at h10; omega⟩
      rw [<- h2 rest, List.append_assoc, decA_one (pos := pk l n k) (n := n) (W ++ rest) h0 (by omega) (by rw [<- hdn]; omega) hpl (by omega) hn, hins, <- hdn]
    · rw [row_more hc]
      rw [if_neg (by omega)] at hps
      obtain ⟨W, p1, n1, h1, h2, h3, h4, h5, h6, h7, h8, h9, h10⟩ := dec_row l n hn hll q (k + 1) ⟨o, d, dn, bi, fi⟩ p0 n0 (by omega) hn0 hnn hp0 (by simp only; omega) (by simp only; rw [Hk_same hx (by omega)]; exact hdn) (by simp only; omega)
      refine ⟨W, p1, n1, h1, fun rest => ?_, h3, h4, h5, h6, h7, h8, h9, h10⟩
      rw [<- h2 rest, Hk_same hx (by omega)]
end
section
open Go.RowKit
set_option maxRecDepth 10000
theorem Hk_cnt (l : List Int) (n : Int) : (Hk l n 0).length = cnt l n := by unfold Hk cnt; rw [List.take_zero, List.drop_zero]; rfl
theorem dec_enc (l : List Int) (hall : ∀ c ∈ l, sg c = true) (hll : l.length <= 255) : ∀ (f : Nat) (sign : Int) (s : En) (p0 n0 : Int), 0 <= n0 -> n0 <= sign -> 0 <= p0 -> s.d = (sign - n0) * (s.done + 1) - p0 -> s.done = (Hk l sign 0).length -> 0 <= s.d -> (l.length : Int) - s.done <= f ->
    ∃ W : Bytes, encGo f l sign s = s.out ++ W ∧ decA W (Hk l sign 0) p0 n0 s.bias s.first = some l ∧ (∀ y ∈ W, isDg y) ∧ (W.length : Int) <= 8 * (l.length - s.done)
  | f, sign, s, p0, n0, hn0, hns, hp0, hd, hdn, h0, hf => by
    by_cases hlt : s.done < l.length
    · cases f with
      | zero => omega
      | succ g =>
        obtain ⟨o, d, dn, bi, fi⟩ := s
        simp only at hd hdn h0 hf hlt ⊢
        have hex := cnt_lt (l := l) (sign := sign) (by rw [<- Hk_cnt]; omega)
        obtain ⟨hm1, hm2, hm3⟩ := lsF_least (by omega) hex
        rw [encGo_more g hlt]
        generalize lsF l sign (-1) = m at *
        have hnx := Hk_next hm2 hm3
        have hpk0 : pk l m 0 = 0 := by unfold pk; rw [List.take_zero]; rfl
        have hmul : (m - n0) * (dn + 1) = (m - sign) * (dn + 1) + (sign - n0) * (dn + 1) := by rw [<- Int.add_mul]; congr 1; omega
        have hpos : 0 <= (m - sign) * (dn + 1) := Int.mul_nonneg (by omega) (by omega)
        obtain ⟨W, p1, n1, h1, h2, h3, h4, h5, h6, h7, h8, h9, h10⟩ := dec_row l m (hall m hm1) hll l.length 0 ⟨o, d + (m - sign) * (dn + 1), dn, bi, fi⟩ p0 n0 (by omega) hn0 (by omega) hp0 (by simp only; rw [hpk0, hmul]; omega) (by simp only; rw [hnx]; exact hdn) (by simp only; omega)
        rw [List.drop_zero] at h1 h2 h6 h7 h8 h10
        generalize rowGo m l ⟨o, d + (m - sign) * (dn + 1), dn, bi, fi⟩ = t at *
        have he := Hk_end l m
        have hpe := pk_end l m
        rw [he] at h2 h7 hpe
        have hgrow : (Hk l (m + 1) 0).length = cnt l m + eqs l m := by rw [Hk_cnt, cnt_succ]
        have heq := eqs_pos hm1
        have hold : dn = cnt l m := by rw [hdn, <- hnx, Hk_cnt]
        have hmul2 : (m + 1 - n1) * (t.done + 1) = (m - n1) * (t.done + 1) + (t.done + 1) := by
          rw [show m + 1 - n1 = (m - n1) + 1 by omega, Int.add_mul, Int.one_mul]
        obtain ⟨W2, e1, e2, e3, e4⟩ := dec_enc l hall hll g (m + 1) ⟨t.out, t.d + 1, t.done, t.bias, t.first⟩ p1 n1 h3 (by omega) h5 (by simp only; rw [hmul2]; omega) (by simp only; exact h7) (by simp only; omega) (by simp only; omega)
        refine ⟨W ++ W2, ?_, ?_, fun y hy => (List.mem_append.mp hy).elim (h9 y) (e3 y), by rw [List.length_append]; simp only at h10 e4; omega⟩
        · rw [e1, h1, List.append_assoc]
        · rw [<- hnx, h2 W2]
          exact e2
    · rw [encGo_done f hlt]
      have hle := Hk_le l sign 0
      refine ⟨[], by simp, ?_, by simp, by simp only [List.length_nil]; have h2 := Hk_le l sign 0; omega⟩
      rw [Hk_all (by omega)]
      rfl
end
section
open Go.RowKit
set_option maxRecDepth 10000
theorem byte_at (s : Bytes) (j : Nat) (h : j < s.length) : (((bs s).data[j]!).toNat : Int) = b2 s[j] := by
  unfold b2 bs
  simp [h]
end
section
open Go.RowKit
set_option maxRecDepth 10000
theorem encF_parts {l : List Int} (hall : ∀ c ∈ l, sg c = true) (hll : l.length <= 255) : ∃ W : Bytes, encF l = bas l ++ hyp (bas l) ++ W ∧ (∀ y ∈ W, isDg y) ∧ (W.length : Int) <= 8 * (l.length - (bas l).length) ∧ (W.length = 0 -> (bas l).length = l.length) := by
  have hbl := bas_len l
  have hbe := bas_le l
  obtain ⟨W, e1, e2, e3, e4⟩ := dec_enc l hall hll l.length 128 ⟨bas l ++ hyp (bas l), 0, (bas l).length, 72, true⟩ 0 128 (by omega) (by omega) (by omega) (by simp) (by simp only; rw [Hk_cnt, hbl]) (by simp) (by simp only; omega)
  refine ⟨W, e1, e3, e4, fun h0 => ?_⟩
  obtain rfl : W = [] := List.eq_nil_of_length_eq_zero h0
  have h2 : some (Hk l 128 0) = some l := e2
  rw [<- congrArg List.length (Option.some.inj h2), Hk_cnt, hbl]
theorem encF_len {l : List Int} (hall : ∀ c ∈ l, sg c = true) (hll : l.length <= 255) : (encF l).length <= 3000 := by
  obtain ⟨W, e, _, h, _⟩ := encF_parts hall hll
  have hbe := bas_le l
  have hh : (hyp (bas l)).length <= 1 := by unfold hyp; split <;> simp
  rw [e, List.length_append, List.length_append]
  omega
end
end Go.Proofs.YtpckaimpjccjhaaGreatDoor
