/- The base of layer 17's statements: what it answers, for texts up to 1048576 bytes. -/
import Derived.Test.YtpckaimpjccjhaaGreatDoorGWlkX
set_option maxHeartbeats 40000000
namespace Go.Proofs.YtpckaimpjccjhaaGreatDoor
open Go.RowKit
set_option maxRecDepth 10000
theorem readU_six {s : Bytes} {u : Url} (h : readU s = some u) : u.host.six.length = 8 := by
 unfold readU at h
 split at h
 ·exact join_six (b := U0) rfl h
 ·cases h
def BaseP (t : ByteArray) (w : World) : Option Url -> Ending -> World -> Prop
 | none, e, w' => e = .returned (.tuple #[.agg (uCells nilV U0), .bool false]) ∧ Below w.heap.size w w'
 | some u, e, w' => ∃ pv, e = .returned (.tuple #[.agg (uCells pv u), .bool (decide (t.size <= 500))]) ∧ w'.ownsRow w.heap.size 9 1 pv u.path.length (Strs u.path) ∧ Below w.heap.size w w'
theorem base17_any (t : ByteArray) (w : World) (ub : t.size <= 1048576) (hE : Env w) : Calls Tryz.prog 15 #[.string t] w (BaseP t w (readU (ls t))) := by
 have hp := fun (W : World) (hW : Below w.heap.size w W) => uparse_any (ls t) W (by rw [ls_length]; omega) (hE.below hW)
 rw [bs_ls] at hp
 cases hR : readU (ls t) with
 | none =>
  rw [hR] at hp
  have HP := h_ (show ∀ W, Below w.heap.size w W -> Calls Tryz.prog 44 #[.string t] W fun e w' => e = .returned (.tuple #[.agg (uCells nilV U0), .bool false]) ∧ Below W.heap.size W w' from hp)
  clear hp hR hE
  go_enter Tryz.func15, Tryz.ntmps15
  go_upto_region 1 with (first
   | (refine alloc_to rfl 30 rfl _ _ (allUrl _) ?_)
   | fail)
  have IA := h_ (OB.fresh w 30 (uCells nilV U0))
  obtain ⟨w1, hw1⟩ := ex_ (w.alloc (.cells (uCells nilV U0) 30))
  rw [<- hw1] at IA ⊢
  clear hw1
  go_wp2_with (first
   | (go_at_call 44; refine (HP.out _ IA.out.bel).mono ?_; rintro e w2 ⟨rfl, hb⟩; have I2 := h_ (IA.out.below hb); clear hb)
   | (refine alloc_to rfl 30 rfl _ _ (allUrl _) ?_)
   | (refine storeUrl rfl (.tmp 4) (.tmp 9) rfl nilV U0 rfl rfl rfl rfl rfl ?_; intro w4 h4 hb; have H4 := h_ h4; have I4 := h_ (I2.out.below hb); clear h4 hb)
   | (refine loadUrl (by rfl) (.tmp 4) rfl _ nilV U0 rfl rfl H4.out ?_)
   | (refine putU rfl (.tmp 2) (.tmp 11) rfl w w.heap.size I4.out nilV U0 rfl rfl rfl rfl ?_; intro w5 i5 _; have I5 := h_ i5; clear i5)
   | fail)
  exact ub_res (u := U0) (q := false) Tryz.results15 rfl rfl rfl I5.out ⟨rfl, I5.out.bel⟩
 | some u =>
  rw [hR] at hp
  have HP := h_ (show ∀ W, Below w.heap.size w W -> Calls Tryz.prog 44 #[.string t] W fun e w' => ∃ pv, e = .returned (.tuple #[.agg (uCells pv u), .bool true]) ∧ w'.ownsRow W.heap.size 9 1 pv u.path.length (Strs u.path) ∧ Below W.heap.size W w' from hp)
  have U8 := h_ (readU_six hR)
  clear hp hR hE
  obtain ⟨q, hq⟩ := ex_ (decide (t.size <= 500))
  show Calls _ _ _ _ fun e w' => ∃ pv, e = .returned (.tuple #[.agg (uCells pv u), .bool (decide (t.size <= 500))]) ∧ w'.ownsRow w.heap.size 9 1 pv u.path.length (Strs u.path) ∧ Below w.heap.size w w'
  rw [<- hq]
  have hqi : decide ((t.size : Int) <= 500) = q := by rw [hq, decide_eq_decide]; omega
  clear hq
  cases q <;>
  ·go_enter Tryz.func15, Tryz.ntmps15
   go_upto_region 1 with (first
    | (refine alloc_to rfl 30 rfl _ _ (allUrl _) ?_)
    | fail)
   have IA := h_ (OB.fresh w 30 (uCells nilV U0))
   obtain ⟨w1, hw1⟩ := ex_ (w.alloc (.cells (uCells nilV U0) 30))
   rw [<- hw1] at IA ⊢
   clear hw1
   go_wp2_with (first
    | (go_at_call 44; refine (HP.out _ IA.out.bel).mono ?_; rintro e w2 ⟨pv, rfl, oo, hb⟩; have I2 := h_ (IA.out.below hb); have O2 := h_ (own_base oo (show w.heap.size + 1 <= _ from IA.out.lt)); clear hb oo)
    | (refine alloc_to rfl 30 rfl _ _ (allUrl _) ?_)
    | (refine storeUrl rfl (.tmp 4) (.tmp 9) rfl pv u U8.out (own_one O2.out) rfl rfl rfl ?_; intro w4 h4 hb; have H4 := h_ h4; have I4 := h_ (I2.out.below hb); have O4 := h_ (own_below' O2.out hb); clear h4 hb)
    | (refine loadUrl (by rfl) (.tmp 4) rfl _ pv u U8.out rfl H4.out ?_)
    | (refine putU rfl (.tmp 2) (.tmp 11) rfl w w.heap.size I4.out pv u U8.out (own_one O4.out) rfl rfl ?_; intro w5 i5 t5; have I5 := h_ i5; have O5 := h_ (own_base (t5.row O4.out (Nat.lt_succ_self _)) (Nat.le_succ _)); clear i5 t5)
    | fail)
   exact ub_res (u := u) Tryz.results15 U8.out rfl rfl I5.out ⟨pv, rfl, O5.out, I5.out.bel⟩
end Go.Proofs.YtpckaimpjccjhaaGreatDoor
