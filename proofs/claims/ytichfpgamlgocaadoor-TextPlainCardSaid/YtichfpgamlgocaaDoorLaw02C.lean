/- The walk of TextOnce. -/
import Derived.Test.YtichfpgamlgocaaDoorLaw02B
import Derived.Test.YtichfpgamlgocaaDoorReg
namespace Go.Proofs.YtichfpgamlgocaaDoor
open Go.RowKit
set_option linter.unusedSimpArgs false

/-- Decode of '[]byte(s)' -/
theorem decode_new (s : ByteArray) (W : World) (hs : s.size ≤ 100000) (hT : Tabs W) :
    Calls Tryd.prog 11 #[.slice (some ⟨W.heap.size, 0, none⟩) s.size (grownCap W s.size 0 5)] (W.alloc (.cells (bytesRow s (grownCap W s.size 0 5)) 5 ((bytesRow s (grownCap W s.size 0 5)).size, (bytesRow s (grownCap W s.size 0 5)).size + 1))).drew
      fun e w' => e = .returned (S (decT (ls s))) ∧ Below W.heap.size W w' := by
  have hc1 : s.size ≤ grownCap W s.size 0 5 := grownCap_ge _ _ _ _
  have hc2 : grownCap W s.size 0 5 ≤ maxLen := grownCap_le_maxLen _ _ _ _ (by unfold maxLen; omega)
  generalize grownCap W s.size 0 5 = cp at *
  obtain ⟨hat, hbw, hsz⟩ := bytes_new W s cp 5 ((bytesRow s cp).size, (bytesRow s cp).size + 1)
  have hsl : Sl (W.heap.size + 1) (W.alloc (.cells (bytesRow s cp) 5 ((bytesRow s cp).size, (bytesRow s cp).size + 1))).drew (.slice (some ⟨W.heap.size, 0, none⟩) s.size cp) (Lib.byteCells (ls s)) :=
    ⟨cp, by rw [Lib.byteCells_length, ls_length]; exact hc1, hc2, .inr ⟨_, 0, by omega, by rw [Lib.byteCells_length, ls_length], hat⟩⟩
  rw [← hsz] at hsl
  exact (decode_any (ls s) _ _ hsl (by rw [ls_length]; omega) (hT.below hbw)).mono fun e w' h => ⟨h.1, hbw.trans (h.2.mono (by omega))⟩

theorem right_val (s : ByteArray) (r : Bool) (w : World) (h : Lib.validD (ls s) = r) (hs : s.size ≤ 9223372036854775807) (hT : Tabs w) :
    Calls Tryd.prog 14 #[.string s] w fun e w' => e = .returned (.bool r) ∧ Below w.heap.size w w' :=
  (right_any s w hs hT).mono fun e w' h' => ⟨by rw [h'.1, h], h'.2⟩
theorem decode_val (s : ByteArray) (r : Bytes) (W : World) (h : decT (ls s) = r) (hs : s.size ≤ 100000) (hT : Tabs W) :
    Calls Tryd.prog 11 #[.slice (some ⟨W.heap.size, 0, none⟩) s.size (grownCap W s.size 0 5)] (W.alloc (.cells (bytesRow s (grownCap W s.size 0 5)) 5 ((bytesRow s (grownCap W s.size 0 5)).size, (bytesRow s (grownCap W s.size 0 5)).size + 1))).drew
      fun e w' => e = .returned (S r) ∧ Below W.heap.size W w' :=
  (decode_new s W hs hT).mono fun e w' h' => ⟨by rw [h'.1, h], h'.2⟩
theorem once_1 (l : Bytes) : Lib.validD (ls (bs (decT l))) = true := by rw [ls_bs, validD_eq, decT_eq]; simp [rdec_rdec]
theorem once_2 (l : Bytes) : Lib.validD (ls (bs l)) = ((bs (decT l)).toList == (bs l).toList) := by rw [ls_bs, validD_eq, toList_bs, toList_bs, decT_eq, eq_dec]
theorem once_3 (l : Bytes) : decT (ls (bs (decT l))) = decT l := by rw [ls_bs, decT_eq, decT_eq, rdec_rdec]

attribute [local simp] bz_refl bz_drew bz_drewN bz_alloc
set_option maxHeartbeats 1000000 in
theorem textOnce_walk (v : Value) (l : Bytes) (w : World) (h : Sl w.heap.size w v (Lib.byteCells l)) (hT : Tabs w) :
    Calls Tryd.prog 6 #[v] w fun e w' => e = .returned (.bool true) ∧ Below w.heap.size w w' := by
  obtain ⟨av, cv, rfl⟩ : ∃ a c, v = .slice a l.length c := by
    obtain ⟨c, _, _, h⟩ := h
    rcases h with ⟨hn, a, rfl⟩ | ⟨b, o, _, rfl, _⟩
    · obtain rfl : l = [] := by simpa [Lib.byteCells] using hn
      exact ⟨a, c, rfl⟩
    · exact ⟨_, c, by rw [Lib.byteCells_length]⟩
  have HT := Lib.hid hT; clear hT
  have H := Lib.hid h; clear h
  obtain ⟨L, hL⟩ : ∃ L, L = l.length := ⟨_, rfl⟩
  rw [← hL] at H ⊢
  by_cases hlt : 1000 < L
  · clear hL
    go_enter Tryd.func6, Tryd.ntmps6
    go_wp2_with fail
    refine (small_any _ HT.out).mono ?_
    rintro e w1 ⟨rfl, hb1⟩
    have HB1 := Lib.hid hb1; clear hb1
    go_wp2
    go_ret
    exact ⟨rfl, HB1.out⟩
  · have hL2 : l.length ≤ 1000 := by omega
    have HL := Lib.hid hL; clear hL
    go_enter Tryd.func6, Tryd.ntmps6
    go_wp2_with fail
    refine (small_any _ HT.out).mono ?_
    rintro e w1 ⟨rfl, hb1⟩
    have hs1 : Sl w1.heap.size w1 (.slice av L cv) (Lib.byteCells l) := ((H.out).below hb1).more hb1.size
    have HB1 := Lib.hid hb1; clear hb1
    have HS1 := Lib.hid hs1; clear hs1
    go_wp2_with fail
    refine (decode_any l _ _ HS1.out (by omega) (HT.out.below HB1.out)).mono ?_
    rintro e w2 ⟨rfl, hb2⟩
    have HS2 := Lib.hid (((HS1.out).below hb2).more hb2.size)
    have HB2 := Lib.hid (HB1.out.trans (hb2.mono HB1.out.size)); clear hb2
    have kc : ∀ W, Below w2.heap.size w2 W → (convert 22 9 (.slice av L cv)).run Tryd.prog W = .ok (.string (bs l)) W := fun W hW =>
      conv_any Tryd.underlying22 Tryd.underlying5 Tryd.underlying9 ((HS2.out).below hW)
    have kb := fun W => run_bytes_of_string (P := Tryd.prog) W 9 22 5 (bs (decT l)) Tryd.underlying9 Tryd.underlying22 Tryd.underlying5
    have hdl : (bs (decT l)).size ≤ 3000 := by rw [bs_size]; have := decT_len _ l (Nat.le_refl _); omega
    have hll : (bs l).size ≤ 3000 := by rw [bs_size]; omega
    have htb : ∀ W, Below w2.heap.size w2 W → Tabs W := fun W hW => HT.out.below (HB2.out.trans (hW.mono (HB2.out).size))
    have HTB := Lib.hid htb; clear htb
    go_wp2
    have hw3 : IntKind.i64.wrap (3 * (L : Int)) = 3 * (L : Int) := IntWalk.i64_in _ (by omega)
    have hdl3 : ((decT l).length : Int) ≤ 3 * (L : Int) := by have := decT_len _ l (Nat.le_refl _); have := HL.out; omega
    refine wp_region_held_drew (S := fun W => Below w2.heap.size w2 W) (by kernel_rfl) (by exact bz_drew (bz_refl _)) (fun hHeld => ?_)
    refine tk 0 (v := ?_) rfl (by kernel_rfl) (by kernel_rfl) (by kernel_rfl) (fun _ _ _ h => h) (by rfl) (by assumption) (fun w hSw => ?_) ?_
    rotate_left
    · (try dsimp only at hSw); go_simp; first | done | with_reducible rfl   -- move
    try simp only [Act.put, List.setIfInBounds_toArray, List.set_cons_zero, List.set_cons_succ]
    refine tk 1 (v := ?_) rfl (by kernel_rfl) (by kernel_rfl) (by kernel_rfl) (fun _ _ _ h => h) (by rfl) (by assumption) (fun w hSw => ?_) ?_
    rotate_left
    · (try dsimp only at hSw); go_simp; first | done | with_reducible rfl   -- move
    try simp only [Act.put, List.setIfInBounds_toArray, List.set_cons_zero, List.set_cons_succ]
    refine tk 2 (v := ?_) rfl (by kernel_rfl) (by kernel_rfl) (by kernel_rfl) (fun _ _ _ h => h) (by rfl) (by assumption) (fun w hSw => ?_) ?_
    rotate_left
    · (try dsimp only at hSw); go_simp; first | done | with_reducible rfl   -- move
    try simp only [Act.put, List.setIfInBounds_toArray, List.set_cons_zero, List.set_cons_succ]
    refine rn 3 (by kernel_rfl) rfl (by rfl) (fun K hK => ?_)   -- call of tamis/text.Right
    go_simp
    refine (right_val (bs (decT l)) _ _ (once_1 l) (by omega) (HTB.out _ (by first | assumption | exact bz_drew (bz_refl _) | exact bz_drew (by assumption)))).mono ?_
    rintro e w3 ⟨rfl, hb3⟩
    replace hb3 := bz_step (a := w2) (by first | assumption | exact bz_drew (bz_refl _) | exact bz_drew (by assumption)) hb3
    try go_wp2_with fail
    refine hK.out _ _ ?_ (fun hHeld1 => ?_)
    · (try dsimp only); first | assumption | exact bz_drew (bz_alloc (by assumption)) | exact bz_alloc (by assumption) | exact bz_drew (by assumption)
    clear hK K
    try simp only [Act.put, List.setIfInBounds_toArray, List.set_cons_zero, List.set_cons_succ]
    refine tk 4 (v := ?_) rfl (by kernel_rfl) (by kernel_rfl) (by kernel_rfl) (fun _ _ _ h => h) (by rfl) (by assumption) (fun w hSw => ?_) ?_
    rotate_left
    · (try dsimp only at hSw); go_simp; first | done | with_reducible rfl   -- pick
    try simp only [Act.put, List.setIfInBounds_toArray, List.set_cons_zero, List.set_cons_succ]
    refine tk 5 (v := ?_) rfl (by kernel_rfl) (by kernel_rfl) (by kernel_rfl) (fun _ _ _ h => h) (by rfl) (by assumption) (fun w hSw => ?_) ?_
    rotate_left
    · (try dsimp only at hSw); go_simp; first | done | with_reducible rfl   -- move
    try simp only [Act.put, List.setIfInBounds_toArray, List.set_cons_zero, List.set_cons_succ]
    refine tk 6 (v := ?_) rfl (by kernel_rfl) (by kernel_rfl) (by kernel_rfl) (fun _ _ _ h => h) (by rfl) (by assumption) (fun w hSw => ?_) ?_
    rotate_left
    · (try dsimp only at hSw); go_simp; first | done | with_reducible rfl   -- move
    try simp only [Act.put, List.setIfInBounds_toArray, List.set_cons_zero, List.set_cons_succ]
    refine tk 9 (v := ?_) rfl (by kernel_rfl) (by kernel_rfl) (by kernel_rfl) (fun _ _ _ h => h) (by rfl) (by assumption) (fun w hSw => ?_) ?_
    rotate_left
    · (try dsimp only at hSw); go_simp; first | done | with_reducible rfl   -- move
    try simp only [Act.put, List.setIfInBounds_toArray, List.set_cons_zero, List.set_cons_succ]
    refine rn 7 (by kernel_rfl) rfl (by rfl) (fun K hK => ?_)   -- convert
    go_simp
    refine hK.out _ _ ?_ (fun hHeld2 => ?_)
    · (try dsimp only); first | assumption | exact bz_drew (bz_alloc (by assumption)) | exact bz_alloc (by assumption) | exact bz_drew (by assumption)
    clear hK K
    try simp only [Act.put, List.setIfInBounds_toArray, List.set_cons_zero, List.set_cons_succ]
    refine rn 8 (by kernel_rfl) rfl (by rfl) (fun K hK => ?_)   -- call of tamis/text.Decode
    go_simp
    refine (decode_val (bs (decT l)) _ _ (once_3 l) (by omega) (HTB.out _ (by first | assumption | exact bz_drew (bz_refl _) | exact bz_drew (by assumption)))).mono ?_
    rintro e w4 ⟨rfl, hb4⟩
    replace hb4 := bz_step (a := w2) (by first | assumption | exact bz_drew (bz_refl _) | exact bz_drew (by assumption)) hb4
    try go_wp2_with fail
    refine hK.out _ _ ?_ (fun hHeld3 => ?_)
    · (try dsimp only); first | assumption | exact bz_drew (bz_alloc (by assumption)) | exact bz_alloc (by assumption) | exact bz_drew (by assumption)
    clear hK K
    try simp only [Act.put, List.setIfInBounds_toArray, List.set_cons_zero, List.set_cons_succ]
    refine tk 10 (v := ?_) rfl (by kernel_rfl) (by kernel_rfl) (by kernel_rfl) (fun _ _ _ h => h) (by rfl) (by assumption) (fun w hSw => ?_) ?_
    rotate_left
    · (try dsimp only at hSw); go_simp; first | done | with_reducible rfl   -- binOp
    try simp only [Act.put, List.setIfInBounds_toArray, List.set_cons_zero, List.set_cons_succ]
    refine tk 11 (v := ?_) rfl (by kernel_rfl) (by kernel_rfl) (by kernel_rfl) (fun _ _ _ h => h) (by rfl) (by assumption) (fun w hSw => ?_) ?_
    rotate_left
    · (try dsimp only at hSw); go_simp; first | done | with_reducible rfl   -- pick
    try simp only [Act.put, List.setIfInBounds_toArray, List.set_cons_zero, List.set_cons_succ]
    refine tk 12 (v := ?_) rfl (by kernel_rfl) (by kernel_rfl) (by kernel_rfl) (fun _ _ _ h => h) (by rfl) (by assumption) (fun w hSw => ?_) ?_
    rotate_left
    · (try dsimp only at hSw); go_simp; first | done | with_reducible rfl   -- move
    try simp only [Act.put, List.setIfInBounds_toArray, List.set_cons_zero, List.set_cons_succ]
    refine tk 13 (v := ?_) rfl (by kernel_rfl) (by kernel_rfl) (by kernel_rfl) (fun _ _ _ h => h) (by rfl) (by assumption) (fun w hSw => ?_) ?_
    rotate_left
    · (try dsimp only at hSw); go_simp; first | done | with_reducible rfl   -- move
    try simp only [Act.put, List.setIfInBounds_toArray, List.set_cons_zero, List.set_cons_succ]
    refine tk 14 (v := ?_) rfl (by kernel_rfl) (by kernel_rfl) (by kernel_rfl) (fun _ _ _ h => h) (by rfl) (by assumption) (fun w hSw => ?_) ?_
    rotate_left
    · (try dsimp only at hSw); go_simp; first | done | with_reducible rfl   -- convert
    try simp only [Act.put, List.setIfInBounds_toArray, List.set_cons_zero, List.set_cons_succ]
    refine tk 16 (v := ?_) rfl (by kernel_rfl) (by kernel_rfl) (by kernel_rfl) (fun _ _ _ h => h) (by rfl) (by assumption) (fun w hSw => ?_) ?_
    rotate_left
    · (try dsimp only at hSw); go_simp; first | done | with_reducible rfl   -- move
    try simp only [Act.put, List.setIfInBounds_toArray, List.set_cons_zero, List.set_cons_succ]
    refine tk 17 (v := ?_) rfl (by kernel_rfl) (by kernel_rfl) (by kernel_rfl) (fun _ _ _ h => h) (by rfl) (by assumption) (fun w hSw => ?_) ?_
    rotate_left
    · (try dsimp only at hSw); go_simp; first | done | with_reducible rfl   -- move
    try simp only [Act.put, List.setIfInBounds_toArray, List.set_cons_zero, List.set_cons_succ]
    refine tk 18 (v := ?_) rfl (by kernel_rfl) (by kernel_rfl) (by kernel_rfl) (fun _ _ _ h => h) (by rfl) (by assumption) (fun w hSw => ?_) ?_
    rotate_left
    · (try dsimp only at hSw); go_simp; first | done | with_reducible rfl   -- convert
    try simp only [Act.put, List.setIfInBounds_toArray, List.set_cons_zero, List.set_cons_succ]
    refine tk 19 (v := ?_) rfl (by kernel_rfl) (by kernel_rfl) (by kernel_rfl) (fun _ _ _ h => h) (by rfl) (by assumption) (fun w hSw => ?_) ?_
    rotate_left
    · (try dsimp only at hSw); go_simp; first | done | with_reducible rfl   -- binOp
    try simp only [Act.put, List.setIfInBounds_toArray, List.set_cons_zero, List.set_cons_succ]
    refine rn 15 (by kernel_rfl) rfl (by rfl) (fun K hK => ?_)   -- call of tamis/text.Right
    go_simp
    refine (right_val (bs l) _ _ (once_2 l) (by omega) (HTB.out _ (by first | assumption | exact bz_drew (bz_refl _) | exact bz_drew (by assumption)))).mono ?_
    rintro e w5 ⟨rfl, hb5⟩
    replace hb5 := bz_step (a := w2) (by first | assumption | exact bz_drew (bz_refl _) | exact bz_drew (by assumption)) hb5
    try go_wp2_with fail
    refine hK.out _ _ ?_ (fun hHeld4 => ?_)
    · (try dsimp only); first | assumption | exact bz_drew (bz_alloc (by assumption)) | exact bz_alloc (by assumption) | exact bz_drew (by assumption)
    clear hK K
    try simp only [Act.put, List.setIfInBounds_toArray, List.set_cons_zero, List.set_cons_succ]
    refine tk 20 (v := ?_) rfl (by kernel_rfl) (by kernel_rfl) (by kernel_rfl) (fun _ _ _ h => h) (by rfl) (by assumption) (fun w hSw => ?_) ?_
    rotate_left
    · (try dsimp only at hSw); go_simp; first | done | with_reducible rfl   -- binOp
    try simp only [Act.put, List.setIfInBounds_toArray, List.set_cons_zero, List.set_cons_succ]
    refine tk 21 (v := ?_) rfl (by kernel_rfl) (by kernel_rfl) (by kernel_rfl) (fun _ _ _ h => h) (by rfl) (by assumption) (fun w hSw => ?_) ?_
    rotate_left
    · (try dsimp only at hSw); go_simp; first | done | with_reducible rfl   -- pick
    try simp only [Act.put, List.setIfInBounds_toArray, List.set_cons_zero, List.set_cons_succ]
    refine tk 22 (v := ?_) rfl (by kernel_rfl) (by kernel_rfl) (by kernel_rfl) (fun _ _ _ h => h) (by rfl) (by assumption) (fun w hSw => ?_) ?_
    rotate_left
    · (try dsimp only at hSw); go_simp; first | done | with_reducible rfl   -- move
    try simp only [Act.put, List.setIfInBounds_toArray, List.set_cons_zero, List.set_cons_succ]
    refine tk 23 (v := ?_) rfl (by kernel_rfl) (by kernel_rfl) (by kernel_rfl) (fun _ _ _ h => h) (by rfl) (by assumption) (fun w hSw => ?_) ?_
    rotate_left
    · (try dsimp only at hSw); go_simp; first | done | with_reducible rfl   -- move
    try simp only [Act.put, List.setIfInBounds_toArray, List.set_cons_zero, List.set_cons_succ]
    refine tk 24 (v := ?_) rfl (by kernel_rfl) (by kernel_rfl) (by kernel_rfl) (fun _ _ _ h => h) (by rfl) (by assumption) (fun w hSw => ?_) ?_
    rotate_left
    · (try dsimp only at hSw); go_simp; first | done | with_reducible rfl   -- call
    try simp only [Act.put, List.setIfInBounds_toArray, List.set_cons_zero, List.set_cons_succ]
    refine tk 25 (v := ?_) rfl (by kernel_rfl) (by kernel_rfl) (by kernel_rfl) (fun _ _ _ h => h) (by rfl) (by assumption) (fun w hSw => ?_) ?_
    rotate_left
    · (try dsimp only at hSw); go_simp; first | done | with_reducible rfl   -- move
    try simp only [Act.put, List.setIfInBounds_toArray, List.set_cons_zero, List.set_cons_succ]
    refine tk 26 (v := ?_) rfl (by kernel_rfl) (by kernel_rfl) (by kernel_rfl) (fun _ _ _ h => h) (by rfl) (by assumption) (fun w hSw => ?_) ?_
    rotate_left
    · (try dsimp only at hSw); go_simp; first | done | with_reducible rfl   -- call
    try simp only [Act.put, List.setIfInBounds_toArray, List.set_cons_zero, List.set_cons_succ]
    refine tk 27 (v := ?_) rfl (by kernel_rfl) (by kernel_rfl) (by kernel_rfl) (fun _ _ _ h => h) (by rfl) (by assumption) (fun w hSw => ?_) ?_
    rotate_left
    · (try dsimp only at hSw); go_simp; first | done | with_reducible rfl   -- binOp
    try simp only [Act.put, List.setIfInBounds_toArray, List.set_cons_zero, List.set_cons_succ]
    refine tk 28 (v := ?_) rfl (by kernel_rfl) (by kernel_rfl) (by kernel_rfl) (fun _ _ _ h => h) (by rfl) (by assumption) (fun w hSw => ?_) ?_
    rotate_left
    · (try dsimp only at hSw); go_simp; first | done | with_reducible rfl   -- binOp
    try simp only [Act.put, List.setIfInBounds_toArray, List.set_cons_zero, List.set_cons_succ]
    refine tk 29 (v := ?_) rfl (by kernel_rfl) (by kernel_rfl) (by kernel_rfl) (fun _ _ _ h => h) (by rfl) (by assumption) (fun w hSw => ?_) ?_
    rotate_left
    · (try dsimp only at hSw); go_simp; first | done | with_reducible rfl   -- pick
    try simp only [Act.put, List.setIfInBounds_toArray, List.set_cons_zero, List.set_cons_succ]
    refine tk 30 (v := ?_) rfl (by kernel_rfl) (by kernel_rfl) (by kernel_rfl) (fun _ _ _ h => h) (by rfl) (by assumption) (fun w hSw => ?_) ?_
    rotate_left
    · (try dsimp only at hSw); go_simp; first | done | with_reducible rfl   -- assign
    try simp only [Act.put, List.setIfInBounds_toArray, List.set_cons_zero, List.set_cons_succ]
    refine wpAnyH_done (by kernel_rfl) ?_ _
    go_wp2
    go_ret
    refine ⟨ret1_bool ?_, HB2.out.trans (hb5.mono (HB2.out).size)⟩
    first | rfl | exact decide_eq_true (by omega)
end Go.Proofs.YtichfpgamlgocaaDoor
