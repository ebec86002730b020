/- slices.Insert of one number, on own rows (over the kit's shelf). -/
import Derived.Test.YtledmlgebfbhaaaDoorPunD
import Derived.Test.YtledmlgebfbhaaaDoorShelf
import Derived.Lib.LazyBuf
namespace Go.Proofs.YtledmlgebfbhaaaDoor
open Go.RowKit
set_option maxRecDepth 10000

/-- what a function answers that makes a row of numbers -/
def RetI (w : World) (base : Nat) (l : List Int) : Ending → World → Prop := fun en w' =>
  ∃ v', en = .returned v' ∧ w'.ownsRow base 3 1 v' l.length (I64s l) ∧ w.heap.size ≤ w'.heap.size ∧ Below base w w'

theorem own_of_rowIs {w : World} {b t cap n base : Nat} {f : Nat → Value} {xs : List Value} (h : w.rowIs b t cap f) (hb : base ≤ b) (hn : n ≤ cap) (hm : cap ≤ maxLen) (hx : xs.length = n) (hf : ∀ j, j < n → some (f j) = xs[j]?) :
    w.ownsRow base t 1 (.slice (some ⟨b, 0, none⟩) n cap) n xs := by
  obtain ⟨c, hc, hs, hcf⟩ := h
  refine ⟨by omega, .inr ⟨b, cap, c, rfl, hb, hc, hn, hm, by omega, ?_⟩⟩
  apply List.ext_getElem?
  intro j
  rw [List.getElem?_take]
  split
  · rw [Array.getElem?_toList, hcf j (by omega), hf j (by omega)]
  · rw [List.getElem?_eq_none (by omega)]
theorem rowIs_own {w : World} {base t n : Nat} {g : Nat} {cap : Nat} {xs : List Value} (h : w.ownsRow base t 1 (.slice (some ⟨g, 0, none⟩) n cap) n xs) :
    ∃ f, w.rowIs g t cap f ∧ base ≤ g ∧ n ≤ cap ∧ cap ≤ maxLen ∧ ∀ j, j < n → some (f j) = xs[j]? := by
  obtain ⟨hl, h⟩ := h
  rcases h with ⟨e, _⟩ | ⟨g', cap', cur, e, hb, hg, hn, hm, hs, ht⟩
  · simp at e
  · injection e with e1 e2 e3
    injection e1 with e1
    injection e1 with e1
    subst e1; subst e3
    refine ⟨fun j => cur[j]?.getD undef, ⟨cur, hg, by omega, fun j hj => ?_⟩, hb, hn, hm, fun j hj => ?_⟩
    · have e := Array.getElem?_eq_getElem (xs := cur) (i := j) (by omega)
      simp [e]
    · have e := Array.getElem?_eq_getElem (xs := cur) (i := j) (by omega)
      rw [← ht, List.getElem?_take, if_pos (by omega), Array.getElem?_toList]
      simp [e]
theorem ins_at {α : Type} (l : List α) (x : α) (i j : Nat) (hi : i ≤ l.length) : (l.take i ++ x :: l.drop i)[j]? = if j < i then l[j]? else if j = i then some x else l[j - 1]? := by
  by_cases h : j < i
  · rw [if_pos h, List.getElem?_append_left (by rw [List.length_take]; omega), List.getElem?_take, if_pos h]
  · rw [if_neg h, List.getElem?_append_right (by rw [List.length_take]; omega), List.length_take, Nat.min_eq_left hi]
    by_cases h2 : j = i
    · subst h2; simp
    · rw [if_neg h2]
      obtain ⟨k, rfl⟩ : ∃ k, j = i + 1 + k := ⟨j - i - 1, by omega⟩
      rw [show i + 1 + k - i = k + 1 by omega, List.getElem?_cons_succ, List.getElem?_drop]
      congr 1
      omega
theorem rowIs_drew {w : World} {b t n : Nat} {f : Nat → Value} (h : w.rowIs b t n f) : w.drew.rowIs b t n f := h

theorem own_made (w : World) (base e : Nat) (xs : List Value) (n G : Nat) (hn : n = xs.length) (hG : n ≤ G) (hm : G ≤ maxLen) (hb : base ≤ w.heap.size) :
    (w.alloc (.cells (xs.toArray ++ Builtin.zeroCells (Value.int .i64 0).cells (G - n)) e)).ownsRow base e 1 (.slice (some ⟨w.heap.size, 0, none⟩) n G) n xs := by
  refine ⟨by omega, .inr ⟨w.heap.size, G, _, rfl, hb, heap_alloc_new w _, hG, hm, ?_, ?_⟩⟩
  · rw [Array.size_append, size_zeroCells]
    simp [Value.cells]
    omega
  · rw [Array.toList_append, List.take_append_of_le_length (by simp; omega)]
    simp [hn]
theorem rowIs_arr (w : World) (c : Array Value) (t n : Nat) (hn : c.size = n) : ∃ f, (w.alloc (.cells c t)).rowIs w.heap.size t n f ∧ ∀ j, j < n → some (f j) = c[j]? := by
  subst hn
  have h : ∀ j, j < c.size → some (c[j]?.getD undef) = c[j]? := fun j hj => by simp [Array.getElem?_eq_getElem hj]
  exact ⟨fun j => c[j]?.getD undef, World.rowIs_alloc w c t _ (fun j hj => (h j hj).symm), h⟩
theorem arr_size (a : List Value) (k m n : Nat) (h : a.length + k + m = n) : (a.toArray ++ Builtin.zeroCells (Value.int .i64 0).cells k ++ Builtin.zeroCells (Value.int .i64 0).cells m).size = n := by
  rw [Array.size_append, Array.size_append, size_zeroCells, size_zeroCells]
  simp [Value.cells]
  exact h
theorem arr_at {cs : List Value} {i j : Nat} (B C : Array Value) (h : j < i) (hi : i ≤ cs.length) : ((List.take i cs).toArray ++ B ++ C)[j]? = cs[j]? := by
  rw [← Array.getElem?_toList, Array.toList_append, Array.toList_append, List.getElem?_append_left (by simp; omega), List.getElem?_append_left (by simp; omega)]
  simp [h]
theorem ins_f (cs : List Value) (u : Value) (i j : Nat) (f : Nat → Value) (hi : i ≤ cs.length) (hj : j < cs.length + 1) (hf : j < i → some (f j) = cs[j]?) :
    some (if i + 1 ≤ j ∧ j < i + 1 + (List.drop i cs).length then (List.drop i cs)[j - (i + 1)]?.getD default else if i ≤ j ∧ j < i + [u].length then [u][j - i]?.getD default else f j) =
      if j < i then cs[j]? else if j = i then some u else cs[j - 1]? := by
  by_cases h1 : j < i
  · rw [if_neg (by omega), if_neg (by omega), if_pos h1, hf h1]
  · by_cases h2 : j = i
    · subst h2
      rw [if_neg (by omega), if_pos (by simp), if_neg (by omega), if_pos rfl]
      simp
    · rw [if_pos (by rw [List.length_drop]; omega), if_neg h1, if_neg h2, List.getElem?_drop, show i + (j - (i + 1)) = j - 1 by omega, List.getElem?_eq_getElem (by omega)]
      rfl
theorem ins_g (cs : List Value) (u : Value) (i j : Nat) (f : Nat → Value) (hi : i ≤ cs.length) (hj : j < cs.length + 1) (hf : j < i → some (f j) = cs[j]?) :
    some (if i ≤ j ∧ j < i + [u].length then [u][j - i]?.getD default else if i + 1 ≤ j ∧ j < i + 1 + (List.drop i cs).length then (List.drop i cs)[j - (i + 1)]?.getD default else f j) =
      if j < i then cs[j]? else if j = i then some u else cs[j - 1]? := by
  rw [← ins_f cs u i j f hi hj hf]
  by_cases h1 : i + 1 ≤ j ∧ j < i + 1 + (List.drop i cs).length
  · rw [if_neg (by simp; omega), if_pos h1, if_pos h1]
  · rw [if_neg h1, if_neg h1]
theorem ins_len {α : Type} (l : List α) (x : α) (i : Nat) (hi : i ≤ l.length) : (l.take i ++ x :: l.drop i).length = l.length + 1 := by
  rw [List.length_append, List.length_take, List.length_cons, List.length_drop]; omega

set_option maxHeartbeats 1000000 in
theorem insert_any (l : List Int) (x : Int) (i : Nat) (v : Value) (base : Nat) (w : World) (h : w.ownsRow base 3 1 v l.length (I64s l)) (hb : base ≤ w.heap.size) (hi : i ≤ l.length) (hl : l.length ≤ 1000) :
    Calls Tryd.prog 41 #[v, .int .i64 i, .slice (some ⟨w.heap.size, 0, none⟩) 1 1] (w.alloc (.cells #[.int .i64 x] 3)) fun e w' => RetI w base (l.take i ++ x :: l.drop i) e w' := by
  have hlen := ins_len l x i hi
  have hcl : (I64s l).length = l.length := by simp
  have hvs : ∀ j u, [Value.int .i64 x][j]? = some u → (w.alloc (.cells #[.int .i64 x] 3)).cell? ⟨w.heap.size, 0 + j, none⟩ = some u := by
    intro j u hj
    match j, hj with
    | 0, hj => simp at hj; subst hj; rw [World.cell?_alloc_mark]; rfl
  have h1v : ∀ u ∈ [Value.int .i64 x], u.oneCell' = true := by intro u hu; simp at hu; subst hu; rfl
  have h1c : ∀ u ∈ I64s l, u.oneCell' = true := by intro u hu; simp at hu; obtain ⟨_, _, rfl⟩ := hu; rfl
  have hbW : Below base w (w.alloc (.cells #[.int .i64 x] 3)) := (Below.refl _ _).alloc hb _
  have hzW : (w.alloc (.cells #[.int .i64 x] 3)).heap.size = w.heap.size + 1 := by simp
  have hA := h.alloc (.cells #[.int .i64 x] 3)
  have hlt := h.lt
  have hins : ∀ j, (I64s (l.take i ++ x :: l.drop i))[j]? = if j < i then (I64s l)[j]? else if j = i then some (.int .i64 x) else (I64s l)[j - 1]? := by
    intro j
    rw [List.getElem?_map, ins_at l x i j hi]
    split
    · rw [List.getElem?_map]
    split
    · rfl
    · rw [List.getElem?_map]
  generalize hW : w.alloc (.cells #[.int .i64 x] 3) = W at *
  -- at the end, a new row
  have hend : ∀ (bs : Option Addr) (c : Nat), l.length ≤ c → c < l.length + 1 → i = l.length → (bs = none → l.length = 0) → (∀ a, bs = some a → ∀ j u, (I64s l)[j]? = some u → W.cell? (a.add j) = some u) →
      Calls Tryd.prog 41 #[.slice bs l.length c, .int .i64 i, .slice (some ⟨w.heap.size, 0, none⟩) 1 1] W fun e w' => RetI w base (l.take i ++ x :: l.drop i) e w' := by
    intro bs' c h1 h2 h3 h4 h5
    subst h3
    have hc1 : l.length + 1 ≤ grownCap W (l.length + 1) c 3 := grownCap_ge _ _ _ _
    have hc2 : grownCap W (l.length + 1) c 3 ≤ maxLen := grownCap_le_maxLen _ _ _ _ (by unfold maxLen; omega)
    have hc := Any2.slices_Insert_int_end_grow Tryd.laysIns bs' l.length c w.heap.size 0 1 1 (I64s l) [.int .i64 x] W (by omega) h1 h2 (by omega) hcl rfl h4 h5 hvs h1v
    refine (show Calls Tryd.prog 41 _ W _ from hc).mono ?_
    rintro e w' ⟨rfl, rfl⟩
    refine ⟨_, rfl, ?_, by simp [hzW]; omega, (hbW.drew).alloc (by simp [hzW]; omega) _⟩
    rw [hlen, List.take_length, List.drop_length, show I64s (l ++ [x]) = I64s l ++ [Value.int .i64 x] by simp]
    exact own_made W.drew base 3 (I64s l ++ [.int .i64 x]) (l.length + 1) _ (by simp) hc1 hc2 (by show base ≤ W.heap.size; omega)
  rcases h.2 with ⟨rfl, h0⟩ | ⟨g, cap, cur, rfl, hbg, hg, hnc, hcm, hcs, hct⟩
  · obtain rfl : l = [] := List.eq_nil_of_length_eq_zero h0
    exact hend none 0 (Nat.le_refl _) (by omega) (by simpa using hi) (fun _ => rfl) (by simp)
  · obtain ⟨f, hf, _, _, _, hfx⟩ := rowIs_own hA
    have hcell : ∀ j u, (I64s l)[j]? = some u → W.cell? ((⟨g, 0, none⟩ : Addr).add j) = some u := hA.cells rfl
    have hglt := hlt g rfl
    have hcell' : ∀ j u, (I64s l)[j]? = some u → W.cell? ⟨g, 0 + j, none⟩ = some u := fun j u hj => by
      have := hcell j u hj
      rwa [addr_add] at this
    have hgne : w.heap.size ≠ g := by omega
    by_cases hroom : cap < l.length + 1
    · by_cases hin : i = l.length
      · exact hend (some ⟨g, 0, none⟩) cap hnc hroom hin (by simp) (fun a ha => by simp at ha; subst ha; exact hcell)
      · have hc1 : l.length + 1 ≤ grownCap W (l.length + 1) cap 3 := grownCap_ge _ _ _ _
        have hc2 : grownCap W (l.length + 1) cap 3 ≤ maxLen := grownCap_le_maxLen _ _ _ _ (by unfold maxLen; omega)
        have hc := Any2.slices_Insert_int_grow Tryd.laysIns g 0 l.length cap i w.heap.size 0 1 1 (I64s l) [.int .i64 x] W (by omega) (by omega) hnc hroom (by omega) hcl rfl hcell' hvs h1c h1v
        refine (show Calls Tryd.prog 41 _ W _ from hc).mono ?_
        rintro e w' ⟨rfl, rfl⟩
        have hsz := arr_size (List.take i (I64s l)) (l.length + 1 - i) (grownCap W (l.length + 1) cap 3 - (l.length + 1)) (grownCap W (l.length + 1) cap 3) (by rw [List.length_take, hcl]; omega)
        obtain ⟨f0, r0, hf0⟩ := rowIs_arr W _ 3 _ hsz
        have r2 := Go.rowIs_setCells (List.drop i (I64s l)) (i + 1) _ _ (Go.rowIs_setCells [.int .i64 x] i _ _ r0.drew).drew
        have hfin := fun (o : Obj) => Go.below_setCells (B := base) (b := W.heap.size) (by omega) (List.drop i (I64s l)) (i + 1) _ ((Go.below_setCells (B := base) (b := W.heap.size) (by omega) [.int .i64 x] i _ ((hbW.alloc (by omega) o).drew)).drew)
        refine ⟨_, rfl, ?_, ?_, ?_⟩
        · rw [hlen]
          refine own_of_rowIs r2 (by omega) hc1 hc2 ((List.length_map _).trans hlen) (fun j hj => ?_)
          rw [hins j]
          exact ins_f (I64s l) (.int .i64 x) i j f0 (by omega) (by omega) (fun h => (hf0 j (by omega)).trans (arr_at _ _ h (by omega)))
        · exact (hfin _).size
        · exact hfin _
    · have hsome : ∀ j, j < l.length + 1 → (W.cell? ⟨g, 0 + j, none⟩).isSome = true := fun j hj => by rw [Nat.zero_add, hf.cell (by omega)]; rfl
      have hfroz : ∀ j, W.frozen? ⟨g, j, none⟩ = false := fun j => hf.frozen j
      have hr := Go.rowIs_setCells (List.drop i (I64s l)) (i + 1) _ _ hf.drew
      have hr := Go.rowIs_setCells [.int .i64 x] i _ _ hr
      by_cases hin : i = l.length
      · subst hin
        have hsome' : ∀ j, j < 1 → (W.cell? ⟨g, 0 + l.length + j, none⟩).isSome = true := fun j hj => by rw [hf.cell (by omega)]; rfl
        have hc := Any2.slices_Insert_int_end_room Tryd.laysIns g 0 l.length cap w.heap.size 0 1 1 [.int .i64 x] W (by omega) (by omega) (by unfold maxLen at hcm; omega) rfl (fun j hj => hsome' j hj) (fun j _ => hfroz _) hvs h1v
        refine (show Calls Tryd.prog 41 _ W _ from hc).mono ?_
        rintro e w' ⟨rfl, rfl⟩
        have hfin := Go.below_setCells (B := base) (b := g) hbg [.int .i64 x] (0 + l.length) _ hbW
        refine ⟨_, rfl, ?_, hfin.size, hfin⟩
        rw [hlen]
        have hr1 := Go.rowIs_setCells [.int .i64 x] (0 + l.length) _ _ hf
        refine own_of_rowIs hr1 hbg (by omega) hcm ((List.length_map _).trans hlen) (fun j hj => ?_)
        rw [hins j]
        by_cases h1 : j < l.length
        · rw [if_neg (by omega), if_pos h1, hfx j h1]
        · obtain rfl : j = l.length := by omega
          rw [if_pos (by simp), if_neg (by omega), if_pos rfl]
          simp
      · have hgW : W.shape? g = some (3, cap) := by
          obtain ⟨c, h1, h2, _⟩ := hf
          unfold World.shape?
          rw [h1, ← h2]
        have hwW : W.shape? w.heap.size = some (3, 1) := by rw [← hW]; unfold World.shape?; rw [heap_alloc_new]; rfl
        have hwf : ∀ j, W.frozen? ⟨w.heap.size, j, none⟩ = false := fun j => by rw [← hW]; unfold World.frozen?; rw [heap_alloc_new]; simp
        have hc := Any2.slices_Insert_int_shift Tryd.laysIns g 0 l.length cap i w.heap.size 0 1 1 (I64s l) [.int .i64 x] W (by omega) (by omega) (by omega) (by unfold maxLen at hcm; omega) hgne hcl rfl hcell' hsome (fun j _ => hfroz _) hvs h1c h1v
          3 3 1 cap hwW hgW (by omega) (hwf _) (hwf _)
        refine (show Calls Tryd.prog 41 _ W _ from hc).mono ?_
        rintro e w' ⟨rfl, rfl⟩
        simp only [Nat.zero_add]
        have hfin := Go.below_setCells (B := base) (b := g) hbg [.int .i64 x] i _ (Go.below_setCells (B := base) (b := g) hbg (List.drop i (I64s l)) (i + 1) _ hbW.drew)
        refine ⟨_, rfl, ?_, hfin.size, hfin⟩
        rw [hlen]
        refine own_of_rowIs hr hbg (by omega) hcm ((List.length_map _).trans hlen) (fun j hj => ?_)
        rw [hins j]
        exact ins_g (I64s l) (.int .i64 x) i j f (by omega) (by omega) (fun h => hfx j (by omega))
end Go.Proofs.YtledmlgebfbhaaaDoor
