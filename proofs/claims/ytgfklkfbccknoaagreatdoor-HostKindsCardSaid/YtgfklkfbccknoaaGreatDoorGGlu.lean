/- Slices of slices, and rows that are glued from several: append(a, b...), of any elements of one cell. No program stands in it. -/
import Derived.Test.YtgfklkfbccknoaaGreatDoorGBase
import Derived.Maps.AppendAt
namespace Go.Proofs.YtgfklkfbccknoaaGreatDoor
open Go.RowKit
set_option maxRecDepth 10000

theorem addr_add0 (a : Option Addr) (b o : Nat) (h : a = some ⟨b, o, none⟩) (j : Nat) : a.map (·.add j) = some ⟨b, o + j, none⟩ := by
  subst h; rw [Option.map_some, addr_add]
/-- a slice of a slice reads so -/
theorem Sl.cut {B : Nat} {w : World} {a : Option Addr} {n c : Nat} {xs : List Value} (h : Sl B w (.slice a n c) xs) (l k : Nat) (hlk : l ≤ k) (hk : k ≤ n) : Sl B w (sliced a l k c 1) ((xs.drop l).take (k - l)) := by
  obtain ⟨c', h1, h2, h⟩ := h
  unfold sliced
  rcases h with ⟨hn, a', hv⟩ | ⟨b, o, hb, hv, ha⟩
  · injection hv with e1 e2 e3
    subst e3
    subst hn
    subst e2
    refine ⟨c - l, by simp, by omega, .inl ⟨by simp, (if c = l then a else a.map (·.add (l * 1))), ?_⟩⟩
    rw [show k - l = 0 by omega]
  · injection hv with e1 e2 e3
    subst e3
    have hlen : ((xs.drop l).take (k - l)).length = k - l := by rw [List.length_take, List.length_drop]; omega
    by_cases hc : c = l
    · have h0 : k - l = 0 := by omega
      refine ⟨c - l, by rw [hlen]; omega, by omega, .inl ⟨by rw [h0]; simp, a, ?_⟩⟩
      rw [h0, if_pos hc]
    · rw [if_neg hc]
      refine ⟨c - l, by rw [hlen]; omega, by omega, .inr ⟨b, o + l, hb, ?_, fun j hj => ?_⟩⟩
      · rw [addr_add0 a b o e1, Nat.mul_one, hlen]
      · rw [hlen] at hj
        have := ha (l + j) (by omega)
        rw [Nat.add_assoc, this]
        simp
theorem run_size {P : Program} {e : TypeId} {i : TypeInfo} (hi : P.info? e = some i) (hsize : i.size = 1) (w : World) : (sizeOf e).run P w = .ok 1 w := by
  simp [sizeOf, typeInfo, hi, hsize]
section
variable {P : Program} {t : TypeId} {i : TypeInfo} (ht : P.underlying t = some (.slice (P.elem t))) (hi : P.info? (P.elem t) = some i) (hsize : i.size = 1)
include ht hi hsize
/-- s[:k] -/
theorem cut_h {B : Nat} {w : World} {a : Option Addr} {n c : Nat} {xs : List Value} (h : Sl B w (.slice a n c) xs) (hn : n = xs.length) (k : Nat) (hk : k ≤ n) :
    ∃ v, (∀ W, (Instr.slice t (.slice a n c) none (some (.int .i64 k)) none).run P W = .ok v W) ∧ Sl B w v (xs.take k) := by
  have hc : n ≤ c := by
    obtain ⟨c', h1, h2, h⟩ := h
    rcases h with ⟨hn, a', hv⟩ | ⟨b, o, hb, hv, ha⟩ <;> (injection hv with e1 e2 e3; omega)
  refine ⟨_, fun W => ?_, by have := h.cut 0 k (by omega) hk; simpa using this⟩
  rw [run_slice_h W t a n c ht .i64 k (by omega) (by omega), run_size hi hsize]
  rfl
/-- s[l:] -/
theorem cut_l {B : Nat} {w : World} {a : Option Addr} {n c : Nat} {xs : List Value} (h : Sl B w (.slice a n c) xs) (hn : n = xs.length) (l : Nat) (hl : l ≤ n) :
    ∃ v, (∀ W, (Instr.slice t (.slice a n c) (some (.int .i64 l)) none none).run P W = .ok v W) ∧ Sl B w v (xs.drop l) := by
  refine ⟨_, fun W => ?_, by have := h.cut l n hl (by omega); rwa [List.take_of_length_le (by rw [List.length_drop]; omega)] at this⟩
  rw [run_slice_l W t a n c ht .i64 l (by omega) (by omega), run_size hi hsize]
  rfl
end
/-- what a slice's value looks like -/
theorem Sl.val {B : Nat} {w : World} {v : Value} {xs : List Value} (h : Sl B w v xs) : ∃ a c, v = .slice a xs.length c := by
  obtain ⟨c', h1, h2, h⟩ := h
  rcases h with ⟨hn, a', hv⟩ | ⟨b, o, hb, hv, ha⟩
  · exact ⟨_, _, by rw [hv, hn]; rfl⟩
  · exact ⟨_, _, hv⟩
/-- append(v, x...), v the call's own -/
theorem append_v {P : Program} (w : World) (base : Nat) (t ty e : TypeId) (i : TypeInfo) (z : Value) (bytes : Nat) (ht : P.underlying t = some (.slice e)) (hi : P.info? e = some i) (hz : i.zero = some z)
    (hsize : i.size = 1) (hby : i.bytes = bytes) (hzs : z.cells.size = 1) (v : Value) (n : Nat) (xs ys : List Value) (hown : w.ownsRow base e 1 v n xs) (h1 : ∀ u ∈ ys, u.oneCell' = true)
    (h63 : n + ys.length ≤ maxLen) (hlen : (n + ys.length) * bytes ≤ 140737488355328) (hbase : base ≤ w.heap.size) (B : Nat) (x : Value) (hx : Sl B w x ys) :
    ∃ v' w', (Builtin.append_ #[t, t] ty #[v, x]).run P w = .ok v' w' ∧ w'.ownsRow base e 1 v' (n + ys.length) (xs ++ ys) ∧ w.grownBy w' v.ownBlock ∧
      (v'.ownBlock = v.ownBlock ∨ v'.ownBlock = some w.heap.size) := by
  have some_ : ∀ (ad : Addr) (c : Nat), (∀ j u, ys[j]? = some u → w.cell? (ad.add j) = some u) → ∃ v' w', (Builtin.append_ #[t, t] ty #[v, .slice (some ad) ys.length c]).run P w = .ok v' w' ∧ w'.ownsRow base e 1 v' (n + ys.length) (xs ++ ys) ∧ w.grownBy w' v.ownBlock ∧
      (v'.ownBlock = v.ownBlock ∨ v'.ownBlock = some w.heap.size) := by
    intro ad c hc
    obtain ⟨v', w', a1, a2, a3, _, a5⟩ := run_append_own_at (P := P) w base t ty e i z 1 bytes ht hi hz hsize hby hzs (by decide) v n _ hown ad ys.length c ys (by simp) hc h1 h63 hlen hbase
    exact ⟨v', w', a1, a2, a3, a5⟩
  obtain ⟨c, hc, hm, h⟩ := hx
  rcases h with ⟨hn, a, rfl⟩ | ⟨b, o, hb, rfl, ha⟩
  · obtain rfl : ys = [] := hn
    cases a with
    | some a => exact some_ a c (fun j u hu => by simp at hu)
    | none =>
      refine ⟨v, w, ?_, by simpa using hown, ⟨rfl, rfl, rfl, Nat.le_refl _, fun _ _ _ => rfl⟩, .inl rfl⟩
      rcases hown.2 with ⟨rfl, rfl⟩ | ⟨g, cap, cur, rfl, _, hg, hnc, hcm, hcs, htake⟩
      · simp [Builtin.append_, run_underlying ht, sizeOf, typeInfo, hi, Builtin.lenOf, Builtin.firstCells]
      · simp [Builtin.append_, run_underlying ht, sizeOf, typeInfo, hi, Builtin.lenOf, Builtin.firstCells, hnc, storeCells]
  · refine some_ ⟨b, o, none⟩ c (fun j u hu => ?_)
    obtain ⟨hj, rfl⟩ := List.getElem?_eq_some_iff.1 hu
    rw [addr_add]
    exact ha j hj
theorem own_new (w : World) (e : TypeId) : (w.alloc (.cells #[] e)).ownsRow w.heap.size e 1 (.slice (some ⟨w.heap.size, 0, none⟩) 0 0) 0 [] := by
  refine ⟨by simp, .inr ⟨w.heap.size, 0, #[], rfl, Nat.le_refl _, heap_alloc_new w _, Nat.le_refl _, by unfold maxLen; omega, by simp, by simp⟩⟩
theorem sl_one (w : World) (e : TypeId) (u : Value) : Sl (w.heap.size + 1) (w.alloc (.cells #[u] e)) (.slice (some ⟨w.heap.size, 0, none⟩) 1 1) [u] := by
  refine ⟨1, by simp, by unfold maxLen; omega, .inr ⟨w.heap.size, 0, by omega, by simp, fun j hj => ?_⟩⟩
  have : j = 0 := by simpa using hj
  subst this
  rw [World.cell?_alloc_mark]
  rfl
/-- append(append(append([]T{}, x...), u), y...) -/
theorem glue_ins {P : Program} (w : World) (t ty e : TypeId) (i : TypeInfo) (z : Value) (bytes : Nat) (ht : P.underlying t = some (.slice e)) (hi : P.info? e = some i) (hz : i.zero = some z)
    (hsize : i.size = 1) (hby : i.bytes = bytes) (hb8 : bytes ≤ 64) (hzs : z.cells.size = 1) (xs ys : List Value) (u : Value) (hx1 : ∀ v ∈ xs, v.oneCell' = true) (hy1 : ∀ v ∈ ys, v.oneCell' = true) (hu1 : u.oneCell' = true)
    (hlen : xs.length + ys.length ≤ 1000000) (x y : Value) (hx : Sl w.heap.size w x xs) (hy : Sl w.heap.size w y ys) :
    ∃ v1 w1 v2 w2 v3 w3, (Builtin.append_ #[t, t] ty #[.slice (some ⟨w.heap.size, 0, none⟩) 0 0, x]).run P (w.alloc (.cells #[] e)) = .ok v1 w1 ∧
      (Builtin.append_ #[t, t] ty #[v1, .slice (some ⟨w1.heap.size, 0, none⟩) 1 1]).run P (w1.alloc (.cells #[u] e)) = .ok v2 w2 ∧
      (Builtin.append_ #[t, t] ty #[v2, y]).run P w2 = .ok v3 w3 ∧ w3.ownsRow w.heap.size e 1 v3 (xs.length + 1 + ys.length) (xs ++ u :: ys) ∧ w.heap.size ≤ w3.heap.size ∧ Below w.heap.size w w3 := by
  have mb : ∀ m, m ≤ 1000001 → m * bytes ≤ 140737488355328 := fun m hm => Nat.le_trans (Nat.mul_le_mul hm hb8) (by decide)
  have b0 : Below w.heap.size w (w.alloc (.cells #[] e)) := (Below.refl _ _).alloc (Nat.le_refl _) _
  obtain ⟨v1, w1, r1, o1, g1, _⟩ := append_v (w.alloc (.cells #[] e)) w.heap.size t ty e i z bytes ht hi hz hsize hby hzs _ 0 [] xs (own_new w e) hx1 (by unfold maxLen; omega) (mb _ (by omega)) b0.size w.heap.size x (hx.below b0)
  have b1 : Below w.heap.size w w1 := b0.grown g1 b0.size (fun k hk => ((own_new w e).lt k hk).1)
  rw [Nat.zero_add, List.nil_append] at o1
  have b2 : Below w.heap.size w (w1.alloc (.cells #[u] e)) := b1.alloc b1.size _
  obtain ⟨v2, w2, r2, o2, g2, _⟩ := append_v (w1.alloc (.cells #[u] e)) w.heap.size t ty e i z bytes ht hi hz hsize hby hzs _ xs.length xs [u] (o1.alloc _) (by simpa using hu1) (by unfold maxLen; simp; omega) (mb _ (by simp; omega)) b2.size _ _ (sl_one w1 e u)
  have b3 : Below w.heap.size w w2 := b2.grown g2 b2.size (fun k hk => (o1.lt k hk).1)
  obtain ⟨v3, w3, r3, o3, g3, _⟩ := append_v w2 w.heap.size t ty e i z bytes ht hi hz hsize hby hzs _ (xs.length + 1) (xs ++ [u]) ys o2 hy1 (by unfold maxLen; omega) (mb _ (by omega)) b3.size w.heap.size y (hy.below b3)
  have b4 : Below w.heap.size w w3 := b3.grown g3 b3.size (fun k hk => (o2.lt k hk).1)
  refine ⟨v1, w1, v2, w2, v3, w3, r1, r2, r3, ?_, b4.size, b4⟩
  rw [List.append_assoc] at o3
  exact o3
end Go.Proofs.YtgfklkfbccknoaaGreatDoor
