/- What the walks of ParseDots and ParseForms share. -/
import Derived.Test.YtpckaimpjccjhaaGreatDoorGPrsL
import Derived.Test.YtpckaimpjccjhaaGreatDoorMLaw17E
import Derived.Test.YtpckaimpjccjhaaGreatDoorGSixF
import Derived.Test.YtpckaimpjccjhaaGreatDoorGSixA
import Derived.Test.YtpckaimpjccjhaaGreatDoorGWlkN
import Derived.Test.YtpckaimpjccjhaaGreatDoorGWlkT
set_option maxHeartbeats 40000000
namespace Go.Proofs.YtpckaimpjccjhaaGreatDoor
open Go.RowKit
set_option maxRecDepth 10000
theorem uok_rd {b u : Url} {t s : Bytes} (ht : t.length <= 500) (hs : s.length <= 1000) (hb : readU t = some b) (h : readJ b s = some u) : UOk u := by
 have h0 := ul_readU (L := 1000) (by omega) (by omega) hb
 have hl := ul_readJ (L := 1000) hs (by omega) h0 h
 exact ⟨good_ok (readJ_good (readU_good hb) h), ul_sm hl (by omega) (by omega), ul_bs hl (by omega)⟩
theorem self_any (u : Url) (pu pv : Value) (w : World) (hu : UOk u) (h : Sl w.heap.size w pu (u.path.map S)) (k : Sl w.heap.size w pv (u.path.map S)) :
  Calls Tryz.prog 19 #[.agg (uCells pu u), .agg (uCells pv u)] w fun e w' => e = .returned (.bool true) ∧ Below w.heap.size w w' := by
 refine (same_any u u pu pv w (B := w.heap.size) (C := w.heap.size) hu.six hu.six h k (Nat.le_refl _) (Nat.le_refl _) (by have := hu.bs.1; omega) (by have := hu.bs.1; omega)).mono ?_
 rintro e w' ⟨q, rfl, hq, hb⟩
 rw [hq.mpr rfl]
 exact ⟨rfl, hb⟩
structure DU (w0 : World) (g : Nat) (p : Value) (u : Url) (W : World) : Prop where
 c : CB W g 30 (uCells p u)
 s : Sl W.heap.size W p (u.path.map S)
 b : Below w0.heap.size w0 W
section
variable {w0 W W' : World} {g : Nat} {p : Value} {u : Url}
theorem DU.below (q : DU w0 g p u W) (h : Below W.heap.size W W') : DU w0 g p u W' := ⟨q.c.keep h, (q.s.below h).more h.size, q.b.trans (h.mono q.b.size)⟩
end
theorem join_is {b u : Url} {w W : World} {bv : Value} {x : Bytes} (hb : UOk b) (hx : x.length <= 1000000) (hr : readJ b x = some u) (hE : Env w) (hW : Below w.heap.size w W) (o : Sl W.heap.size W bv (b.path.map S)) :
  Calls Tryz.prog 16 #[.agg (uCells bv b), .string (bs x)] W fun e w' => ∃ pv, e = .returned (.tuple #[.agg (uCells pv u), .bool true]) ∧ w'.ownsRow W.heap.size 9 1 pv u.path.length (Strs u.path) ∧ Below W.heap.size W w' := by
 have h := pjoin_any b bv x W hb.six o hb.b (by omega) (hE.below hW)
 rw [hr] at h
 exact h
section
variable {o : Oper} {a : Act} {w : World} {K : Act -> World -> Prop} {Q : Exit -> Act -> World -> Prop}
theorem bslice1_wp (y : Operand) (ho : o.op = .buildSlice 28 1 #[(0, y)]) (x : Bytes) (hy : a.eval y = S x)
  (h : ∀ b w', Below w.heap.size w w' -> Sl w'.heap.size w' (.slice (some ⟨b, 0, none⟩) 1 1) ([x].map S) -> K (a.put o.dst (.slice (some ⟨b, 0, none⟩) 1 1)) w') : Oper.wp Tryz.prog o a w K Q := by
 unfold Oper.wp execOp
 have e : (#[(0, y)] : Array (Nat × Operand)).map (fun (i, x) => (i, a.eval x)) = #[(0, S x)] := by simp [hy]
 simp only [ho, Sem.run_bind, Sem.run_pure, Result.andThen_ok, e, bldS1]
 refine h _ _ ((Below.refl _ _).alloc (Nat.le_refl _) _) ?_
 refine ⟨1, by simp, by unfold maxLen; omega, .inr ⟨w.heap.size, 0, by simp, by simp, fun j hj => ?_⟩⟩
 have h0 : j = 0 := by simpa using hj
 subst h0
 rw [World.cell?_alloc_mark]; rfl
end
theorem push_strs {w : World} {base : Nat} {v u : Value} {l m : List Bytes} (hown : w.ownsRow base 9 1 v l.length (Strs l)) (hb : base <= w.heap.size) (hs : Sl w.heap.size w u (m.map S)) (hl : l.length + m.length <= 1024000000) (ty : TypeId) :
  ∃ v2 w2, (Builtin.append_ #[28, 28] ty #[v, u]).run Tryz.prog w = .ok v2 w2 ∧ w2.ownsRow base 9 1 v2 (l ++ m).length (Strs (l ++ m)) ∧ Below base w w2 := by
 obtain ⟨i1, hi1, hz1, hz2, hz3⟩ := info_parts str_info
 obtain ⟨v2, w2, h1, h2, h3, _⟩ := append_v (P := Tryz.prog) w base 28 ty 9 i1 (.string ⟨#[]⟩) 16 Tryz.underlying28 hi1 hz1 hz2 hz3 (by decide) v l.length (Strs l) (m.map S) hown
  (fun u hu => by obtain ⟨y, _, rfl⟩ := List.mem_map.1 hu; rfl) (by rw [List.length_map]; unfold maxLen; omega) (by rw [List.length_map]; omega) hb w.heap.size u hs
 refine ⟨v2, w2, h1, ?_, (Below.refl base w).grown h3 hb (fun k hk => (hown.lt k hk).1)⟩
 rw [List.length_map] at h2
 rw [List.length_append]
 have e : Strs (l ++ m) = Strs l ++ m.map S := List.map_append
 rw [e]
 exact h2
theorem uok_0 : UOk U0 := ⟨⟨⟨by decide, by decide, rfl, by decide⟩, by decide⟩, ⟨by decide, by decide, by decide, by decide, by decide, by decide, by decide, by decide⟩, ⟨by decide, fun x hx => by cases hx⟩⟩
theorem join_get {b : Url} {w W : World} {bv : Value} {x : Bytes} {R : Option Url} (hb : UOk b) (hx : x.length <= 1000000) (hr : readJ b x = R) (hE : Env w) (hW : Below w.heap.size w W) (o : Sl W.heap.size W bv (b.path.map S)) :
  Calls Tryz.prog 16 #[.agg (uCells bv b), .string (bs x)] W fun e w' => ∃ pv, e = .returned (.tuple #[.agg (uCells pv (R.getD U0)), .bool R.isSome]) ∧ w'.ownsRow W.heap.size 9 1 pv (R.getD U0).path.length (Strs (R.getD U0).path) ∧ Below W.heap.size W w' := by
 refine (pjoin_any b bv x W hb.six o hb.b (by omega) (hE.below hW)).mono fun e w' h => ?_
 rw [hr] at h
 cases R with
 | none => exact ⟨nilV, h.1, World.ownsRow_nil _ _ _ _, h.2⟩
 | some u => exact h
structure DB (w0 : World) (B g : Nat) (p : Value) (u : Url) (W : World) : Prop where
 c : CB W g 30 (uCells p u)
 s : Sl B W p (u.path.map S)
 h : B <= W.heap.size
 b : Below w0.heap.size w0 W
section
variable {w0 W W' : World} {B g : Nat} {p : Value} {u : Url}
theorem DB.below (q : DB w0 B g p u W) (h : Below W.heap.size W W') : DB w0 B g p u W' := ⟨q.c.keep h, q.s.below (h.mono q.h), Nat.le_trans q.h h.size, q.b.trans (h.mono q.b.size)⟩
theorem DB.tn (q : DB w0 B g p u W) (t : Tn B W W') (hn : g ≠ B) (hb : Below w0.heap.size w0 W') : DB w0 B g p u W' := ⟨t.cb q.c hn, t.sl q.s (Nat.le_refl _) q.h, Nat.le_trans q.h t.s, hb⟩
theorem DB.sl (q : DB w0 B g p u W) : Sl W.heap.size W p (u.path.map S) := q.s.more q.h
theorem DU.db (q : DU w0 g p u W) (h : Below W.heap.size W W') : DB w0 W.heap.size g p u W' := ⟨q.c.keep h, q.s.below h, h.size, q.b.trans (h.mono q.b.size)⟩
end
section
variable {o : Oper} {a : Act} {w : World} {K : Act -> World -> Prop} {Q : Exit -> Act -> World -> Prop}
theorem allocU_wp (ho : o.op = .alloc 30)
  (h : ∀ w', CB w' w.heap.size 30 (uCells nilV U0) -> Below w.heap.size w w' -> K (a.put o.dst (.pointer (some ⟨w.heap.size, 0, none⟩))) w') : o.wp Tryz.prog a w K Q := by
 unfold Oper.wp execOp
 simp only [ho, Sem.run_bind, Sem.run_pure, Result.andThen_ok, allUrl]
 exact h _ (CB.new w _ _) ((Below.refl _ _).alloc (Nat.le_refl _) _)
theorem putU_wp (x y : Operand) (ho : o.op = .store 30 x y) (w0 : World) (b : Nat) {pv0 : Value} {u0 : Url} (i : OB w0 b 30 (uCells pv0 u0) w) (h80 : u0.host.six.length = 8) (pv : Value) (u : Url) (h8 : u.host.six.length = 8) (h1 : pv.oneCell' = true)
  (hx : a.eval x = .pointer (some ⟨b, 0, none⟩)) (hy : a.eval y = .agg (uCells pv u))
  (h : ∀ w', OB w0 b 30 (uCells pv u) w' -> Tn b w w' -> K (a.put o.dst undef) w') : Oper.wp Tryz.prog o a w K Q :=
 putN_wp _ x y ho w0 b _ (uCells pv0 u0) i 0 (urlCells pv u) hx hy (by rw [u_len h8, u_size h80]; exact Nat.le_of_eq rfl) (by rw [u_len h8]; exact u_info) (u_one h1) (uCells pv u) (u_whole h80 h8) h
end
end Go.Proofs.YtpckaimpjccjhaaGreatDoor
