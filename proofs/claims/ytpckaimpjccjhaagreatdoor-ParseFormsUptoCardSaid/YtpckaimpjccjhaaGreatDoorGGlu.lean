/- Slices of slices, and rows that are glued from several: append(a, b...), of any elements of one cell. No program stands in it. -/
import Derived.Maps.AppendAt
import Derived.Test.YtpckaimpjccjhaaGreatDoorGBase
set_option maxHeartbeats 40000000
namespace Go.Proofs.YtpckaimpjccjhaaGreatDoor
open Go.RowKit
set_option maxRecDepth 10000
theorem addr_add0 (a : Option Addr) (b o : Nat) (h : a = some ⟨b, o, none⟩) (j : Nat) : a.map (·.add j) = some ⟨b, o + j, none⟩ := by
 subst h; rw [Option.map_some, addr_add]
theorem Sl.cut {B : Nat} {w : World} {a : Option Addr} {n c : Nat} {xs : List Value} (h : Sl B w (.slice a n c) xs) (l k : Nat) (hlk : l <= k) (hk : k <= n) : Sl B w (sliced a l k c 1) ((xs.drop l).take (k - l)) := by
 obtain ⟨c', h1, h2, h⟩ := h
 unfold sliced
 rcases h with ⟨hn, a', hv⟩ | ⟨b, o, hb, hv, ha⟩
 ·injection hv with e1 e2 e3
  subst e3
  subst hn
  subst e2
  refine ⟨c - l, by simp, by omega, .inl ⟨by simp, (if c = l then a else a.map (·.add (l * 1))), ?_⟩⟩
  rw [show k - l = 0 by omega]
 ·injection hv with e1 e2 e3
  subst e3
  have hlen : ((xs.drop l).take (k - l)).length = k - l := by rw [List.length_take, List.length_drop]; omega
  by_cases hc : c = l
  ·have h0 : k - l = 0 := by omega
   refine ⟨c - l, by rw [hlen]; omega, by omega, .inl ⟨by rw [h0]; simp, a, ?_⟩⟩
   rw [h0, if_pos hc]
  ·rw [if_neg hc]
   refine ⟨c - l, by rw [hlen]; omega, by omega, .inr ⟨b, o + l, hb, ?_, fun j hj => ?_⟩⟩
   ·rw [addr_add0 a b o e1, Nat.mul_one, hlen]
   ·rw [hlen] at hj
    have := ha (l + j) (by omega)
    rw [Nat.add_assoc, this]
    simp
theorem run_size {P : Program} {e : TypeId} {i : TypeInfo} (hi : P.info? e = some i) (hsize : i.size = 1) (w : World) : (sizeOf e).run P w = .ok 1 w := by
 simp [sizeOf, typeInfo, hi, hsize]
section
variable {P : Program} {t : TypeId} {i : TypeInfo} (ht : P.underlying t = some (.slice (P.elem t))) (hi : P.info? (P.elem t) = some i) (hsize : i.size = 1)
include ht hi hsize
end
theorem Sl.val {B : Nat} {w : World} {v : Value} {xs : List Value} (h : Sl B w v xs) : ∃ a c, v = .slice a xs.length c := by
 obtain ⟨c', h1, h2, h⟩ := h
 rcases h with ⟨hn, a', hv⟩ | ⟨b, o, hb, hv, ha⟩
 ·exact ⟨_, _, by rw [hv, hn]; rfl⟩
 ·exact ⟨_, _, hv⟩
theorem append_v {P : Program} (w : World) (base : Nat) (t ty e : TypeId) (i : TypeInfo) (z : Value) (bytes : Nat) (ht : P.underlying t = some (.slice e)) (hi : P.info? e = some i) (hz : i.zero = some z)
  (hsize : i.size = 1) (hby : i.bytes = bytes) (hzs : z.cells.size = 1) (v : Value) (n : Nat) (xs ys : List Value) (hown : w.ownsRow base e 1 v n xs) (h1 : ∀ u ∈ ys, u.oneCell' = true)
  (h63 : n + ys.length <= maxLen) (hlen : (n + ys.length) * bytes <= 140737488355328) (hbase : base <= w.heap.size) (B : Nat) (x : Value) (hx : Sl B w x ys) :
  ∃ v' w', (Builtin.append_ #[t, t] ty #[v, x]).run P w = .ok v' w' ∧ w'.ownsRow base e 1 v' (n + ys.length) (xs ++ ys) ∧ w.grownBy w' v.ownBlock ∧
   (v'.ownBlock = v.ownBlock ∨ v'.ownBlock = some w.heap.size) := by
 have some_ : ∀ (ad : Addr) (c : Nat), (∀ j u, ys[j]? = some u -> w.cell? (ad.add j) = some u) -> ∃ v' w', (Builtin.append_ #[t, t] ty #[v, .slice (some ad) ys.length c]).run P w = .ok v' w' ∧ w'.ownsRow base e 1 v' (n + ys.length) (xs ++ ys) ∧ w.grownBy w' v.ownBlock ∧
   (v'.ownBlock = v.ownBlock ∨ v'.ownBlock = some w.heap.size) := by
  intro ad c hc
  obtain ⟨v', w', a1, a2, a3, _, a5⟩ := run_append_own_at (P := P) w base t ty e i z 1 bytes ht hi hz hsize hby hzs (by decide) v n _ hown ad ys.length c ys (by simp) hc h1 h63 hlen hbase
  exact ⟨v', w', a1, a2, a3, a5⟩
 obtain ⟨c, hc, hm, h⟩ := hx
 rcases h with ⟨hn, a, rfl⟩ | ⟨b, o, hb, rfl, ha⟩
 ·obtain rfl : ys = [] := hn
  cases a with
  | some a => exact some_ a c (fun j u hu => by simp at hu)
  | none =>
   refine ⟨v, w, ?_, by simpa using hown, ⟨rfl, rfl, rfl, Nat.le_refl _, fun _ _ _ => rfl⟩, .inl rfl⟩
   rcases hown.2 with ⟨rfl, rfl⟩ | ⟨g, cap, cur, rfl, _, hg, hnc, hcm, hcs, htake⟩
   ·simp [Builtin.append_, run_underlying ht, sizeOf, typeInfo, hi, Builtin.lenOf, Builtin.firstCells]
   ·simp [Builtin.append_, run_underlying ht, sizeOf, typeInfo, hi, Builtin.lenOf, Builtin.firstCells, hnc, storeCells]
 ·refine some_ ⟨b, o, none⟩ c (fun j u hu => ?_)
  obtain ⟨hj, rfl⟩ := List.getElem?_eq_some_iff.1 hu
  rw [addr_add]
  exact ha j hj
end Go.Proofs.YtpckaimpjccjhaaGreatDoor
