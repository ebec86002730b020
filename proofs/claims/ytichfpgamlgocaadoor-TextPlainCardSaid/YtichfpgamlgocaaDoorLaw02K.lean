/- A row that a statement glues from several: append(append(append([]byte{}, x...), y...), z...). -/
import Derived.Test.YtichfpgamlgocaaDoorLaw02D
import Derived.Test.YtichfpgamlgocaaDoorUtfD
namespace Go.Proofs.YtichfpgamlgocaaDoor
open Go.RowKit

/-- a row of bytes that was made since w0 -/
def Glue (w0 w : World) (e : TypeId) (v : Value) (l : Bytes) : Prop :=
  w.ownsRow 0 e 1 v l.length (Lib.byteCells l) ∧ (∀ k, v.ownBlock = some k → w0.heap.size ≤ k) ∧ Below w0.heap.size w0 w
theorem Glue.new (w : World) (e : TypeId) : Glue w (w.alloc (.cells #[] e)) e (.slice (some ⟨w.heap.size, 0, none⟩) 0 0) [] :=
  ⟨own_empty w e, fun k hk => by simp [Value.ownBlock] at hk; omega, (Below.refl _ _).alloc (Nat.le_refl _) _⟩
theorem Glue.alloc {w0 w : World} {e : TypeId} {v : Value} {l : Bytes} (h : Glue w0 w e v l) (o : Obj) : Glue w0 (w.alloc o) e v l :=
  ⟨h.1.alloc _, h.2.1, h.2.2.alloc h.2.2.size _⟩
theorem Glue.step {P : Program} {w0 w : World} {e : TypeId} {v : Value} {l : Bytes} (h : Glue w0 w e v l) (t ty : TypeId) (i : TypeInfo) (ht : P.underlying t = some (.slice e)) (hi : P.info? e = some i) (hz : i.zero = some (.int .u8 0))
    (hsize : i.size = 1) (hby : i.bytes = 1) (m : Bytes) (hlen : l.length + m.length ≤ 1000000) (B : Nat) (x : Value) (hx : Sl B w x (Lib.byteCells m)) :
    ∃ v' w', (Builtin.append_ #[t, t] ty #[v, x]).run P w = .ok v' w' ∧ Glue w0 w' e v' (l ++ m) := by
  obtain ⟨ho, hk, hb⟩ := h
  obtain ⟨v', w', hr, ho', hgr, hloc⟩ := append_sl (P := P) w t ty e i ht hi hz hsize hby v l.length l m ho (by omega) B x hx
  refine ⟨v', w', hr, ?_, ?_, hb.grown hgr hb.size hk⟩
  · rw [List.length_append]; exact ho'
  · intro k hk'
    rcases hloc with h | ⟨j, h, hj⟩
    · exact hk k (by rw [← h]; exact hk')
    · rw [hk'] at h
      injection h with h
      have := hb.size
      omega
theorem Glue.sl {w0 w : World} {e : TypeId} {v : Value} {l : Bytes} (h : Glue w0 w e v l) : Sl w.heap.size w v (Lib.byteCells l) := Sl.of_own h.1
theorem Glue.src {w0 w : World} {e : TypeId} {v : Value} {l : Bytes} (h : Glue w0 w e v l) {x : Value} {m : Bytes} (hx : Sl w0.heap.size w0 x (Lib.byteCells m)) : Sl w0.heap.size w x (Lib.byteCells m) := hx.below h.2.2
/-- three rows in one -/
theorem glue3 {P : Program} (w : World) (t ty e : TypeId) (i : TypeInfo) (ht : P.underlying t = some (.slice e)) (hi : P.info? e = some i) (hz : i.zero = some (.int .u8 0))
    (hsize : i.size = 1) (hby : i.bytes = 1) (x y z : Bytes) (hlen : x.length + y.length + z.length ≤ 1000000) (vx vy vz : Value)
    (hx : Sl w.heap.size w vx (Lib.byteCells x)) (hy : Sl w.heap.size w vy (Lib.byteCells y)) (hz' : Sl w.heap.size w vz (Lib.byteCells z)) :
    ∃ v1 w1 v2 w2 v3 w3, (Builtin.append_ #[t, t] ty #[.slice (some ⟨w.heap.size, 0, none⟩) 0 0, vx]).run P (w.alloc (.cells #[] e)) = .ok v1 w1 ∧ (Builtin.append_ #[t, t] ty #[v1, vy]).run P w1 = .ok v2 w2 ∧
      (Builtin.append_ #[t, t] ty #[v2, vz]).run P w2 = .ok v3 w3 ∧ Sl w3.heap.size w3 v3 (Lib.byteCells (x ++ y ++ z)) ∧ Below w.heap.size w w3 := by
  have g0 := Glue.new w e
  obtain ⟨v1, w1, r1, g1⟩ := g0.step (P := P) t ty i ht hi hz hsize hby x (by simp; omega) _ vx (g0.src hx)
  obtain ⟨v2, w2, r2, g2⟩ := g1.step (P := P) t ty i ht hi hz hsize hby y (by simp; omega) _ vy (g1.src hy)
  obtain ⟨v3, w3, r3, g3⟩ := g2.step (P := P) t ty i ht hi hz hsize hby z (by simp; omega) _ vz (g2.src hz')
  exact ⟨v1, w1, v2, w2, v3, w3, r1, r2, r3, g3.sl, g3.2.2⟩
end Go.Proofs.YtichfpgamlgocaaDoor
