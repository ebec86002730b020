/- Package idna's Map, and the reference's to, valid and Map. Written by genIdnD.py. -/
import Derived.Test.YtledmlgebfbhaaaDoorIdnC
namespace Go.Proofs.YtledmlgebfbhaaaDoor
open Go.RowKit
set_option maxRecDepth 10000

theorem toF_join {c : Int} : (bs (joinF (toF c))).toList.isEmpty = decide (toF c = []) := by
  rw [toList_bs]
  cases h : toF c with
  | nil => simp [joinF]
  | cons x r =>
    rw [joinF_cons]
    have := (enc_len x).1
    cases he : enc x with
    | nil => rw [he] at this; simp at this
    | cons y s => simp
theorem mapF_to {c : Int} (h : toF c ≠ []) : mapF c = (joinF (toF c), 2) := by unfold mapF; rw [if_pos h]
theorem mapF_gone {c : Int} (h : toF c = []) (h2 : gnF c = true) : mapF c = ([], 3) := by unfold mapF; rw [if_neg (by simp [h]), if_pos h2]
theorem mapF_valid {c : Int} (h : toF c = []) (h2 : gnF c = false) (h3 : vlF c = true) : mapF c = (enc c, 1) := by unfold mapF; rw [if_neg (by simp [h]), if_neg (by simp [h2]), if_pos h3]
theorem mapF_none {c : Int} (h : toF c = []) (h2 : gnF c = false) (h3 : vlF c = false) : mapF c = ([], 0) := by unfold mapF; rw [if_neg (by simp [h]), if_neg (by simp [h2]), if_neg (by simp [h3])]
theorem ret_map {a : Bytes} {k : Int} {t : Bytes × Int} (h : t = (a, k)) : Ending.returned (.tuple #[.string (bs a), .int .i64 k]) = .returned (.tuple #[S t.1, .int .i64 t.2]) := by subst h; rfl
theorem map_cases (c : Int) : (∃ b, toF c ≠ [] ∧ (bs (joinF (toF c))).toList.isEmpty = false ∧ b = joinF (toF c) ∧ mapF c = (b, 2)) ∨ (toF c = [] ∧ gnF c = true ∧ mapF c = ([], 3)) ∨ (toF c = [] ∧ gnF c = false ∧ vlF c = true ∧ mapF c = (enc c, 1)) ∨ (toF c = [] ∧ gnF c = false ∧ vlF c = false ∧ mapF c = ([], 0)) := by
  by_cases h : toF c = []
  · right
    cases h2 : gnF c
    · right
      cases h3 : vlF c
      · exact .inr ⟨h, rfl, rfl, mapF_none h h2 h3⟩
      · exact .inl ⟨h, rfl, rfl, mapF_valid h h2 h3⟩
    · exact .inl ⟨h, rfl, mapF_gone h h2⟩
  · exact .inl ⟨_, h, by rw [toF_join]; simp [h], rfl, mapF_to h⟩
set_option maxHeartbeats 2000000 in
theorem map_any (c : Int) (w : World) : Calls Tryd.prog 11 #[.int .i64 c] w fun e w' => e = .returned (.tuple #[S (mapF c).1, .int .i64 (mapF c).2]) ∧ Below w.heap.size w w' := by
  have ho := fun W => other_any c W
  have hg := fun W => gone_any c W
  have hv := fun W => valid_any c W
  obtain ⟨M, hM⟩ : ∃ M, M = mapF c := ⟨_, rfl⟩
  rw [← hM]
  rcases map_cases c with ⟨b, h, h2, h3, e⟩ | ⟨h, h2, e⟩ | ⟨h, h2, h3, e⟩ | ⟨h, h2, h3, e⟩
  all_goals rw [← hM] at e
  · rw [← h3] at ho h2
    have HM := Lib.hid e; clear e hM h h3
    have HO := Lib.hid ho; clear ho hg hv
    go_enter Tryd.func11, Tryd.ntmps11
    go_wp2_with (first | (go_at_call 21; refine (HO.out _).mono ?_; rintro e w2 ⟨rfl, rfl⟩) | fail)
    go_ret2
    exact ⟨ret_map HM.out, Below.refl _ _⟩
  · rw [h] at ho
    rw [h2] at hg
    have hem : (bs (joinF [])).toList.isEmpty = true := by rw [toList_bs]; rfl
    have HM := Lib.hid e; clear e hM h h2
    have HO := Lib.hid ho; clear ho
    have HG := Lib.hid hg; clear hg hv
    go_enter Tryd.func11, Tryd.ntmps11
    go_wp2_with (first | (go_at_call 21; refine (HO.out _).mono ?_; rintro e w2 ⟨rfl, rfl⟩) | (go_at_call 22; refine (HG.out _).mono ?_; rintro e w2 ⟨rfl, rfl⟩) | fail)
    go_ret2
    exact ⟨ret_map (a := []) HM.out, Below.refl _ _⟩
  · rw [h] at ho
    rw [h2] at hg
    rw [h3] at hv
    have hem : (bs (joinF [])).toList.isEmpty = true := by rw [toList_bs]; rfl
    have HM := Lib.hid e; clear e hM h h2 h3
    have HO := Lib.hid ho; clear ho
    have HG := Lib.hid hg; clear hg
    have HV := Lib.hid hv; clear hv
    go_enter Tryd.func11, Tryd.ntmps11
    go_wp2_with (first | (go_at_call 21; refine (HO.out _).mono ?_; rintro e w2 ⟨rfl, rfl⟩) | (go_at_call 22; refine (HG.out _).mono ?_; rintro e w2 ⟨rfl, rfl⟩) | (go_at_call 23; refine (HV.out _).mono ?_; rintro e w2 ⟨rfl, hb2⟩; have HB2 := Lib.hid hb2; clear hb2) | (go_at_call 17; refine (sign_any _ _).mono ?_; rintro e w3 ⟨rfl, rfl⟩) | fail)
    go_ret2
    exact ⟨ret_map HM.out, HB2.out⟩
  · rw [h] at ho
    rw [h2] at hg
    rw [h3] at hv
    have hem : (bs (joinF [])).toList.isEmpty = true := by rw [toList_bs]; rfl
    have HM := Lib.hid e; clear e hM h h2 h3
    have HO := Lib.hid ho; clear ho
    have HG := Lib.hid hg; clear hg
    have HV := Lib.hid hv; clear hv
    go_enter Tryd.func11, Tryd.ntmps11
    go_wp2_with (first | (go_at_call 21; refine (HO.out _).mono ?_; rintro e w2 ⟨rfl, rfl⟩) | (go_at_call 22; refine (HG.out _).mono ?_; rintro e w2 ⟨rfl, rfl⟩) | (go_at_call 23; refine (HV.out _).mono ?_; rintro e w2 ⟨rfl, hb2⟩; have HB2 := Lib.hid hb2; clear hb2) | fail)
    go_ret2
    exact ⟨ret_map (a := []) HM.out, HB2.out⟩

/-- a row that was just laid -/
theorem sl_lay (w : World) (e : TypeId) (xs ys : List Value) (n : Nat) (hn : n = xs.length) (hl : xs.length ≤ 1000000) (h : xs = ys) :
    Sl (w.alloc (.cells xs.toArray e)).heap.size (w.alloc (.cells xs.toArray e)) (.slice (some ⟨w.heap.size, 0, none⟩) n n) ys := by
  subst h; subst hn
  refine ⟨xs.length, by simp, by unfold maxLen; omega, .inr ⟨w.heap.size, 0, by simp, by simp, fun j hj => ?_⟩⟩
  rw [Nat.zero_add, World.cell?_alloc_mark]
  simp
/-- what a function answers that lays a row of numbers, or none -/
def RetL (w : World) (l : List Int) : Ending → World → Prop := fun e w' => ∃ v, e = .returned v ∧ Sl w'.heap.size w' v (I64s l) ∧ Below w.heap.size w w'
theorem retL_nil (w : World) : RetL w [] (.returned (.slice none 0 0)) w := ⟨_, rfl, Sl.nil, Below.refl _ _⟩
theorem retL_1 (w : World) (x y : Int) (h : x = y) : RetL w [y] (.returned (.slice (some ⟨w.heap.size, 0, none⟩) 1 1)) (w.alloc (.cells #[.int .i64 x] 3)) :=
  ⟨_, rfl, sl_lay w _ [.int .i64 x] _ 1 rfl (by simp) (by rw [h]; rfl), (Below.refl _ _).alloc (Nat.le_refl _) _⟩
theorem retL_2 (w : World) (x y : Int) : RetL w [x, y] (.returned (.slice (some ⟨w.heap.size, 0, none⟩) 2 2)) (w.alloc (.cells #[.int .i64 x, .int .i64 y] 3)) :=
  ⟨_, rfl, sl_lay w _ [.int .i64 x, .int .i64 y] _ 2 rfl (by simp) rfl, (Below.refl _ _).alloc (Nat.le_refl _) _⟩
theorem retL_3 (w : World) (x y z : Int) : RetL w [x, y, z] (.returned (.slice (some ⟨w.heap.size, 0, none⟩) 3 3)) (w.alloc (.cells #[.int .i64 x, .int .i64 y, .int .i64 z] 3)) :=
  ⟨_, rfl, sl_lay w _ [.int .i64 x, .int .i64 y, .int .i64 z] _ 3 rfl (by simp) rfl, (Below.refl _ _).alloc (Nat.le_refl _) _⟩
set_option maxHeartbeats 8000000 in
theorem rto_any (c : Int) (w : World) : Calls Tryd.prog 24 #[.int .i64 c] w fun e w' => RetL w (toF c) e w' := by
  rcases to_cases c with ⟨h | h | h | h | h | h, e⟩ | ⟨h, h2, e⟩ | ⟨h, h2, e⟩ | ⟨rfl, e⟩ | ⟨h, e⟩ | ⟨rfl | rfl | rfl, e⟩ | ⟨rfl, e⟩ | ⟨rfl, e⟩ | ⟨h, e⟩ | ⟨h, e⟩ | ⟨h | h, e⟩ | ⟨h, e⟩ | ⟨h, e⟩
  · rw [e]
    clear e
    have q0 : (c == 304) = false := by simp; omega
    have q1 : (c == 8228) = false := by simp; omega
    have q2 : (c == 12290) = false := by simp; omega
    have q3 : (c == 65377) = false := by simp; omega
    have q4 : (c == 8448) = false := by simp; omega
    have q5 : (c == 8453) = false := by simp; omega
    go_enter Tryd.func24, Tryd.ntmps24
    go_wp2_with (first | (go_at_call 36; first | (refine (rin_t _ _ _ _ (by omega)).mono ?_; rintro e w2 ⟨rfl, rfl⟩) | (refine (rin_f _ _ _ _ (by omega)).mono ?_; rintro e w2 ⟨rfl, rfl⟩)) | fail)
    go_ret
    first | exact retL_nil _ | exact retL_1 _ _ _ (by first | rfl | omega) | exact retL_2 _ _ _ | exact retL_3 _ _ _ _
  · rw [e]
    clear e
    have q0 : (c == 304) = false := by simp; omega
    have q1 : (c == 8228) = false := by simp; omega
    have q2 : (c == 12290) = false := by simp; omega
    have q3 : (c == 65377) = false := by simp; omega
    have q4 : (c == 8448) = false := by simp; omega
    have q5 : (c == 8453) = false := by simp; omega
    go_enter Tryd.func24, Tryd.ntmps24
    go_wp2_with (first | (go_at_call 36; first | (refine (rin_t _ _ _ _ (by omega)).mono ?_; rintro e w2 ⟨rfl, rfl⟩) | (refine (rin_f _ _ _ _ (by omega)).mono ?_; rintro e w2 ⟨rfl, rfl⟩)) | fail)
    go_ret
    first | exact retL_nil _ | exact retL_1 _ _ _ (by first | rfl | omega) | exact retL_2 _ _ _ | exact retL_3 _ _ _ _
  · rw [e]
    clear e
    have q0 : (c == 304) = false := by simp; omega
    have q1 : (c == 8228) = false := by simp; omega
    have q2 : (c == 12290) = false := by simp; omega
    have q3 : (c == 65377) = false := by simp; omega
    have q4 : (c == 8448) = false := by simp; omega
    have q5 : (c == 8453) = false := by simp; omega
    go_enter Tryd.func24, Tryd.ntmps24
    go_wp2_with (first | (go_at_call 36; first | (refine (rin_t _ _ _ _ (by omega)).mono ?_; rintro e w2 ⟨rfl, rfl⟩) | (refine (rin_f _ _ _ _ (by omega)).mono ?_; rintro e w2 ⟨rfl, rfl⟩)) | fail)
    go_ret
    first | exact retL_nil _ | exact retL_1 _ _ _ (by first | rfl | omega) | exact retL_2 _ _ _ | exact retL_3 _ _ _ _
  · rw [e]
    clear e
    have q0 : (c == 304) = false := by simp; omega
    have q1 : (c == 8228) = false := by simp; omega
    have q2 : (c == 12290) = false := by simp; omega
    have q3 : (c == 65377) = false := by simp; omega
    have q4 : (c == 8448) = false := by simp; omega
    have q5 : (c == 8453) = false := by simp; omega
    go_enter Tryd.func24, Tryd.ntmps24
    go_wp2_with (first | (go_at_call 36; first | (refine (rin_t _ _ _ _ (by omega)).mono ?_; rintro e w2 ⟨rfl, rfl⟩) | (refine (rin_f _ _ _ _ (by omega)).mono ?_; rintro e w2 ⟨rfl, rfl⟩)) | fail)
    go_ret
    first | exact retL_nil _ | exact retL_1 _ _ _ (by first | rfl | omega) | exact retL_2 _ _ _ | exact retL_3 _ _ _ _
  · rw [e]
    clear e
    have q0 : (c == 304) = false := by simp; omega
    have q1 : (c == 8228) = false := by simp; omega
    have q2 : (c == 12290) = false := by simp; omega
    have q3 : (c == 65377) = false := by simp; omega
    have q4 : (c == 8448) = false := by simp; omega
    have q5 : (c == 8453) = false := by simp; omega
    go_enter Tryd.func24, Tryd.ntmps24
    go_wp2_with (first | (go_at_call 36; first | (refine (rin_t _ _ _ _ (by omega)).mono ?_; rintro e w2 ⟨rfl, rfl⟩) | (refine (rin_f _ _ _ _ (by omega)).mono ?_; rintro e w2 ⟨rfl, rfl⟩)) | fail)
    go_ret
    first | exact retL_nil _ | exact retL_1 _ _ _ (by first | rfl | omega) | exact retL_2 _ _ _ | exact retL_3 _ _ _ _
  · rw [e]
    clear e
    have q0 : (c == 304) = false := by simp; omega
    have q1 : (c == 8228) = false := by simp; omega
    have q2 : (c == 12290) = false := by simp; omega
    have q3 : (c == 65377) = false := by simp; omega
    have q4 : (c == 8448) = false := by simp; omega
    have q5 : (c == 8453) = false := by simp; omega
    go_enter Tryd.func24, Tryd.ntmps24
    go_wp2_with (first | (go_at_call 36; first | (refine (rin_t _ _ _ _ (by omega)).mono ?_; rintro e w2 ⟨rfl, rfl⟩) | (refine (rin_f _ _ _ _ (by omega)).mono ?_; rintro e w2 ⟨rfl, rfl⟩)) | fail)
    go_ret
    first | exact retL_nil _ | exact retL_1 _ _ _ (by first | rfl | omega) | exact retL_2 _ _ _ | exact retL_3 _ _ _ _
  · rw [e]
    clear e
    have q0 : (c == 304) = false := by simp; omega
    have q1 : (c == 8228) = false := by simp; omega
    have q2 : (c == 12290) = false := by simp; omega
    have q3 : (c == 65377) = false := by simp; omega
    have q4 : (c == 8448) = false := by simp; omega
    have q5 : (c == 8453) = false := by simp; omega
    have tm : Int.tmod c 2 = 0 := by rw [Int.tmod_eq_emod_of_nonneg (by omega)]; exact h2
    go_enter Tryd.func24, Tryd.ntmps24
    go_wp2_with (first | (go_at_call 36; first | (refine (rin_t _ _ _ _ (by omega)).mono ?_; rintro e w2 ⟨rfl, rfl⟩) | (refine (rin_f _ _ _ _ (by omega)).mono ?_; rintro e w2 ⟨rfl, rfl⟩)) | fail)
    go_ret
    first | exact retL_nil _ | exact retL_1 _ _ _ (by first | rfl | omega) | exact retL_2 _ _ _ | exact retL_3 _ _ _ _
  · rw [e]
    clear e
    have q0 : (c == 304) = false := by simp; omega
    have q1 : (c == 8228) = false := by simp; omega
    have q2 : (c == 12290) = false := by simp; omega
    have q3 : (c == 65377) = false := by simp; omega
    have q4 : (c == 8448) = false := by simp; omega
    have q5 : (c == 8453) = false := by simp; omega
    have tm : Int.tmod c 2 = 1 := by rw [Int.tmod_eq_emod_of_nonneg (by omega)]; exact h2
    go_enter Tryd.func24, Tryd.ntmps24
    go_wp2_with (first | (go_at_call 36; first | (refine (rin_t _ _ _ _ (by omega)).mono ?_; rintro e w2 ⟨rfl, rfl⟩) | (refine (rin_f _ _ _ _ (by omega)).mono ?_; rintro e w2 ⟨rfl, rfl⟩)) | fail)
    go_ret
    first | exact retL_nil _ | exact retL_1 _ _ _ (by first | rfl | omega) | exact retL_2 _ _ _ | exact retL_3 _ _ _ _
  · rw [e]
    clear e
    go_enter Tryd.func24, Tryd.ntmps24
    go_wp2_with (first | (go_at_call 36; first | (refine (rin_t _ _ _ _ (by omega)).mono ?_; rintro e w2 ⟨rfl, rfl⟩) | (refine (rin_f _ _ _ _ (by omega)).mono ?_; rintro e w2 ⟨rfl, rfl⟩)) | fail)
    go_ret
    first | exact retL_nil _ | exact retL_1 _ _ _ (by first | rfl | omega) | exact retL_2 _ _ _ | exact retL_3 _ _ _ _
  · rw [e]
    clear e
    have q0 : (c == 304) = false := by simp; omega
    have q1 : (c == 8228) = false := by simp; omega
    have q2 : (c == 12290) = false := by simp; omega
    have q3 : (c == 65377) = false := by simp; omega
    have q4 : (c == 8448) = false := by simp; omega
    have q5 : (c == 8453) = false := by simp; omega
    go_enter Tryd.func24, Tryd.ntmps24
    go_wp2_with (first | (go_at_call 36; first | (refine (rin_t _ _ _ _ (by omega)).mono ?_; rintro e w2 ⟨rfl, rfl⟩) | (refine (rin_f _ _ _ _ (by omega)).mono ?_; rintro e w2 ⟨rfl, rfl⟩)) | fail)
    go_ret
    first | exact retL_nil _ | exact retL_1 _ _ _ (by first | rfl | omega) | exact retL_2 _ _ _ | exact retL_3 _ _ _ _
  · rw [e]
    clear e
    go_enter Tryd.func24, Tryd.ntmps24
    go_wp2_with (first | (go_at_call 36; first | (refine (rin_t _ _ _ _ (by omega)).mono ?_; rintro e w2 ⟨rfl, rfl⟩) | (refine (rin_f _ _ _ _ (by omega)).mono ?_; rintro e w2 ⟨rfl, rfl⟩)) | fail)
    go_ret
    first | exact retL_nil _ | exact retL_1 _ _ _ (by first | rfl | omega) | exact retL_2 _ _ _ | exact retL_3 _ _ _ _
  · rw [e]
    clear e
    go_enter Tryd.func24, Tryd.ntmps24
    go_wp2_with (first | (go_at_call 36; first | (refine (rin_t _ _ _ _ (by omega)).mono ?_; rintro e w2 ⟨rfl, rfl⟩) | (refine (rin_f _ _ _ _ (by omega)).mono ?_; rintro e w2 ⟨rfl, rfl⟩)) | fail)
    go_ret
    first | exact retL_nil _ | exact retL_1 _ _ _ (by first | rfl | omega) | exact retL_2 _ _ _ | exact retL_3 _ _ _ _
  · rw [e]
    clear e
    go_enter Tryd.func24, Tryd.ntmps24
    go_wp2_with (first | (go_at_call 36; first | (refine (rin_t _ _ _ _ (by omega)).mono ?_; rintro e w2 ⟨rfl, rfl⟩) | (refine (rin_f _ _ _ _ (by omega)).mono ?_; rintro e w2 ⟨rfl, rfl⟩)) | fail)
    go_ret
    first | exact retL_nil _ | exact retL_1 _ _ _ (by first | rfl | omega) | exact retL_2 _ _ _ | exact retL_3 _ _ _ _
  · rw [e]
    clear e
    go_enter Tryd.func24, Tryd.ntmps24
    go_wp2_with (first | (go_at_call 36; first | (refine (rin_t _ _ _ _ (by omega)).mono ?_; rintro e w2 ⟨rfl, rfl⟩) | (refine (rin_f _ _ _ _ (by omega)).mono ?_; rintro e w2 ⟨rfl, rfl⟩)) | fail)
    go_ret
    first | exact retL_nil _ | exact retL_1 _ _ _ (by first | rfl | omega) | exact retL_2 _ _ _ | exact retL_3 _ _ _ _
  · rw [e]
    clear e
    go_enter Tryd.func24, Tryd.ntmps24
    go_wp2_with (first | (go_at_call 36; first | (refine (rin_t _ _ _ _ (by omega)).mono ?_; rintro e w2 ⟨rfl, rfl⟩) | (refine (rin_f _ _ _ _ (by omega)).mono ?_; rintro e w2 ⟨rfl, rfl⟩)) | fail)
    go_ret
    first | exact retL_nil _ | exact retL_1 _ _ _ (by first | rfl | omega) | exact retL_2 _ _ _ | exact retL_3 _ _ _ _
  · rw [e]
    clear e
    have q0 : (c == 304) = false := by simp; omega
    have q1 : (c == 8228) = false := by simp; omega
    have q2 : (c == 12290) = false := by simp; omega
    have q3 : (c == 65377) = false := by simp; omega
    have q4 : (c == 8448) = false := by simp; omega
    have q5 : (c == 8453) = false := by simp; omega
    go_enter Tryd.func24, Tryd.ntmps24
    go_wp2_with (first | (go_at_call 36; first | (refine (rin_t _ _ _ _ (by omega)).mono ?_; rintro e w2 ⟨rfl, rfl⟩) | (refine (rin_f _ _ _ _ (by omega)).mono ?_; rintro e w2 ⟨rfl, rfl⟩)) | fail)
    go_ret
    first | exact retL_nil _ | exact retL_1 _ _ _ (by first | rfl | omega) | exact retL_2 _ _ _ | exact retL_3 _ _ _ _
  · rw [e]
    clear e
    have q0 : (c == 304) = false := by simp; omega
    have q1 : (c == 8228) = false := by simp; omega
    have q2 : (c == 12290) = false := by simp; omega
    have q3 : (c == 65377) = false := by simp; omega
    have q4 : (c == 8448) = false := by simp; omega
    have q5 : (c == 8453) = false := by simp; omega
    go_enter Tryd.func24, Tryd.ntmps24
    go_wp2_with (first | (go_at_call 36; first | (refine (rin_t _ _ _ _ (by omega)).mono ?_; rintro e w2 ⟨rfl, rfl⟩) | (refine (rin_f _ _ _ _ (by omega)).mono ?_; rintro e w2 ⟨rfl, rfl⟩)) | fail)
    go_ret
    first | exact retL_nil _ | exact retL_1 _ _ _ (by first | rfl | omega) | exact retL_2 _ _ _ | exact retL_3 _ _ _ _
  · rw [e]
    clear e
    have q0 : (c == 304) = false := by simp; omega
    have q1 : (c == 8228) = false := by simp; omega
    have q2 : (c == 12290) = false := by simp; omega
    have q3 : (c == 65377) = false := by simp; omega
    have q4 : (c == 8448) = false := by simp; omega
    have q5 : (c == 8453) = false := by simp; omega
    go_enter Tryd.func24, Tryd.ntmps24
    go_wp2_with (first | (go_at_call 36; first | (refine (rin_t _ _ _ _ (by omega)).mono ?_; rintro e w2 ⟨rfl, rfl⟩) | (refine (rin_f _ _ _ _ (by omega)).mono ?_; rintro e w2 ⟨rfl, rfl⟩)) | fail)
    go_ret
    first | exact retL_nil _ | exact retL_1 _ _ _ (by first | rfl | omega) | exact retL_2 _ _ _ | exact retL_3 _ _ _ _
  · rw [e]
    clear e
    have q0 : (c == 304) = false := by simp; omega
    have q1 : (c == 8228) = false := by simp; omega
    have q2 : (c == 12290) = false := by simp; omega
    have q3 : (c == 65377) = false := by simp; omega
    have q4 : (c == 8448) = false := by simp; omega
    have q5 : (c == 8453) = false := by simp; omega
    go_enter Tryd.func24, Tryd.ntmps24
    go_wp2_with (first | (go_at_call 36; first | (refine (rin_t _ _ _ _ (by omega)).mono ?_; rintro e w2 ⟨rfl, rfl⟩) | (refine (rin_f _ _ _ _ (by omega)).mono ?_; rintro e w2 ⟨rfl, rfl⟩)) | fail)
    go_ret
    first | exact retL_nil _ | exact retL_1 _ _ _ (by first | rfl | omega) | exact retL_2 _ _ _ | exact retL_3 _ _ _ _
  · rw [e]
    clear e
    have q0 : (c == 304) = false := by simp; omega
    have q1 : (c == 8228) = false := by simp; omega
    have q2 : (c == 12290) = false := by simp; omega
    have q3 : (c == 65377) = false := by simp; omega
    have q4 : (c == 8448) = false := by simp; omega
    have q5 : (c == 8453) = false := by simp; omega
    have tm : Int.tmod (c - 120782) 10 = (c - 120782) % 10 := Int.tmod_eq_emod_of_nonneg (by omega)
    have tm2 : 0 ≤ (c - 120782) % 10 ∧ (c - 120782) % 10 < 10 := by omega
    go_enter Tryd.func24, Tryd.ntmps24
    go_wp2_with (first | (go_at_call 36; first | (refine (rin_t _ _ _ _ (by omega)).mono ?_; rintro e w2 ⟨rfl, rfl⟩) | (refine (rin_f _ _ _ _ (by omega)).mono ?_; rintro e w2 ⟨rfl, rfl⟩)) | fail)
    go_ret
    first | exact retL_nil _ | exact retL_1 _ _ _ (by first | rfl | omega) | exact retL_2 _ _ _ | exact retL_3 _ _ _ _
  · rw [e]
    clear e
    have q0 : (c == 304) = false := by simp; omega
    have q1 : (c == 8228) = false := by simp; omega
    have q2 : (c == 12290) = false := by simp; omega
    have q3 : (c == 65377) = false := by simp; omega
    have q4 : (c == 8448) = false := by simp; omega
    have q5 : (c == 8453) = false := by simp; omega
    go_enter Tryd.func24, Tryd.ntmps24
    go_wp2_with (first | (go_at_call 36; first | (refine (rin_t _ _ _ _ (by omega)).mono ?_; rintro e w2 ⟨rfl, rfl⟩) | (refine (rin_f _ _ _ _ (by omega)).mono ?_; rintro e w2 ⟨rfl, rfl⟩)) | fail)
    go_ret
    first | exact retL_nil _ | exact retL_1 _ _ _ (by first | rfl | omega) | exact retL_2 _ _ _ | exact retL_3 _ _ _ _
theorem vl_cases (c : Int) : ((0 ≤ c ∧ c ≤ 127) ∧ vlF c = true) ∨ ((223 ≤ c ∧ c ≤ 246) ∧ vlF c = true) ∨ ((248 ≤ c ∧ c ≤ 255) ∧ vlF c = true) ∨ ((257 ≤ c ∧ c ≤ 303) ∧ vlF c = true) ∨ ((768 ≤ c ∧ c ≤ 879) ∧ vlF c = true) ∨ ((945 ≤ c ∧ c ≤ 969) ∧ vlF c = true) ∨ ((1072 ≤ c ∧ c ≤ 1119) ∧ vlF c = true) ∨ ((12353 ≤ c ∧ c ≤ 12438) ∧ vlF c = true) ∨ ((12449 ≤ c ∧ c ≤ 12538) ∧ vlF c = true) ∨ ((19968 ≤ c ∧ c ≤ 40959) ∧ vlF c = true) ∨ ((44032 ≤ c ∧ c ≤ 55203) ∧ vlF c = true) ∨ ((127744 ≤ c ∧ c ≤ 128511) ∧ vlF c = true) ∨ (c = 215 ∧ vlF c = false) ∨ (c = 247 ∧ vlF c = false) ∨ (¬ ((0 ≤ c ∧ c ≤ 127) ∨ (223 ≤ c ∧ c ≤ 246) ∨ (248 ≤ c ∧ c ≤ 255) ∨ (257 ≤ c ∧ c ≤ 303) ∨ (768 ≤ c ∧ c ≤ 879) ∨ (945 ≤ c ∧ c ≤ 969) ∨ (1072 ≤ c ∧ c ≤ 1119) ∨ (12353 ≤ c ∧ c ≤ 12438) ∨ (12449 ≤ c ∧ c ≤ 12538) ∨ (19968 ≤ c ∧ c ≤ 40959) ∨ (44032 ≤ c ∧ c ≤ 55203) ∨ (127744 ≤ c ∧ c ≤ 128511) ∨ c = 215 ∨ c = 247) ∧ vlF c = false) := by
  have hi := vl_iff c
  unfold vlP at hi
  have hf : ¬ ((0 ≤ c ∧ c ≤ 127) ∨ (223 ≤ c ∧ c ≤ 246) ∨ (248 ≤ c ∧ c ≤ 255) ∨ (257 ≤ c ∧ c ≤ 303) ∨ (768 ≤ c ∧ c ≤ 879) ∨ (945 ≤ c ∧ c ≤ 969) ∨ (1072 ≤ c ∧ c ≤ 1119) ∨ (12353 ≤ c ∧ c ≤ 12438) ∨ (12449 ≤ c ∧ c ≤ 12538) ∨ (19968 ≤ c ∧ c ≤ 40959) ∨ (44032 ≤ c ∧ c ≤ 55203) ∨ (127744 ≤ c ∧ c ≤ 128511)) → vlF c = false := fun h => by cases hv : vlF c with | false => rfl | true => exact absurd (hi.mp hv) h
  by_cases h0 : 0 ≤ c ∧ c ≤ 127
  · exact .inl ⟨h0, hi.mpr (by omega)⟩
  by_cases h1 : 223 ≤ c ∧ c ≤ 246
  · exact .inr (.inl ⟨h1, hi.mpr (by omega)⟩)
  by_cases h2 : 248 ≤ c ∧ c ≤ 255
  · exact .inr (.inr (.inl ⟨h2, hi.mpr (by omega)⟩))
  by_cases h3 : 257 ≤ c ∧ c ≤ 303
  · exact .inr (.inr (.inr (.inl ⟨h3, hi.mpr (by omega)⟩)))
  by_cases h4 : 768 ≤ c ∧ c ≤ 879
  · exact .inr (.inr (.inr (.inr (.inl ⟨h4, hi.mpr (by omega)⟩))))
  by_cases h5 : 945 ≤ c ∧ c ≤ 969
  · exact .inr (.inr (.inr (.inr (.inr (.inl ⟨h5, hi.mpr (by omega)⟩)))))
  by_cases h6 : 1072 ≤ c ∧ c ≤ 1119
  · exact .inr (.inr (.inr (.inr (.inr (.inr (.inl ⟨h6, hi.mpr (by omega)⟩))))))
  by_cases h7 : 12353 ≤ c ∧ c ≤ 12438
  · exact .inr (.inr (.inr (.inr (.inr (.inr (.inr (.inl ⟨h7, hi.mpr (by omega)⟩)))))))
  by_cases h8 : 12449 ≤ c ∧ c ≤ 12538
  · exact .inr (.inr (.inr (.inr (.inr (.inr (.inr (.inr (.inl ⟨h8, hi.mpr (by omega)⟩))))))))
  by_cases h9 : 19968 ≤ c ∧ c ≤ 40959
  · exact .inr (.inr (.inr (.inr (.inr (.inr (.inr (.inr (.inr (.inl ⟨h9, hi.mpr (by omega)⟩)))))))))
  by_cases h10 : 44032 ≤ c ∧ c ≤ 55203
  · exact .inr (.inr (.inr (.inr (.inr (.inr (.inr (.inr (.inr (.inr (.inl ⟨h10, hi.mpr (by omega)⟩))))))))))
  by_cases h11 : 127744 ≤ c ∧ c ≤ 128511
  · exact .inr (.inr (.inr (.inr (.inr (.inr (.inr (.inr (.inr (.inr (.inr (.inl ⟨h11, hi.mpr (by omega)⟩)))))))))))
  by_cases g1 : c = 215
  · exact .inr (.inr (.inr (.inr (.inr (.inr (.inr (.inr (.inr (.inr (.inr (.inr (.inl ⟨g1, hf (by omega)⟩))))))))))))
  by_cases g2 : c = 247
  · exact .inr (.inr (.inr (.inr (.inr (.inr (.inr (.inr (.inr (.inr (.inr (.inr (.inr (.inl ⟨g2, hf (by omega)⟩)))))))))))))
  exact .inr (.inr (.inr (.inr (.inr (.inr (.inr (.inr (.inr (.inr (.inr (.inr (.inr (.inr (⟨by omega, hf (by omega)⟩))))))))))))))
set_option maxHeartbeats 8000000 in
theorem rvalid_any (c : Int) (w : World) : Calls Tryd.prog 26 #[.int .i64 c] w fun e w' => e = .returned (.bool (vlF c)) ∧ w = w' := by
  rcases vl_cases c with ⟨h, e⟩ | ⟨h, e⟩ | ⟨h, e⟩ | ⟨h, e⟩ | ⟨h, e⟩ | ⟨h, e⟩ | ⟨h, e⟩ | ⟨h, e⟩ | ⟨h, e⟩ | ⟨h, e⟩ | ⟨h, e⟩ | ⟨h, e⟩ | ⟨rfl, e⟩ | ⟨rfl, e⟩ | ⟨h, e⟩
  · rw [e]
    clear e
    have q1 : (c == 215) = false := by simp; omega
    have q2 : (c == 247) = false := by simp; omega
    go_enter Tryd.func26, Tryd.ntmps26
    go_wp2_with (first | (go_at_call 36; first | (refine (rin_t _ _ _ _ (by omega)).mono ?_; rintro e w2 ⟨rfl, rfl⟩) | (refine (rin_f _ _ _ _ (by omega)).mono ?_; rintro e w2 ⟨rfl, rfl⟩)) | fail)
    go_ret
    exact ⟨rfl, rfl⟩
  · rw [e]
    clear e
    have q1 : (c == 215) = false := by simp; omega
    have q2 : (c == 247) = false := by simp; omega
    go_enter Tryd.func26, Tryd.ntmps26
    go_wp2_with (first | (go_at_call 36; first | (refine (rin_t _ _ _ _ (by omega)).mono ?_; rintro e w2 ⟨rfl, rfl⟩) | (refine (rin_f _ _ _ _ (by omega)).mono ?_; rintro e w2 ⟨rfl, rfl⟩)) | fail)
    go_ret
    exact ⟨rfl, rfl⟩
  · rw [e]
    clear e
    have q1 : (c == 215) = false := by simp; omega
    have q2 : (c == 247) = false := by simp; omega
    go_enter Tryd.func26, Tryd.ntmps26
    go_wp2_with (first | (go_at_call 36; first | (refine (rin_t _ _ _ _ (by omega)).mono ?_; rintro e w2 ⟨rfl, rfl⟩) | (refine (rin_f _ _ _ _ (by omega)).mono ?_; rintro e w2 ⟨rfl, rfl⟩)) | fail)
    go_ret
    exact ⟨rfl, rfl⟩
  · rw [e]
    clear e
    have q1 : (c == 215) = false := by simp; omega
    have q2 : (c == 247) = false := by simp; omega
    go_enter Tryd.func26, Tryd.ntmps26
    go_wp2_with (first | (go_at_call 36; first | (refine (rin_t _ _ _ _ (by omega)).mono ?_; rintro e w2 ⟨rfl, rfl⟩) | (refine (rin_f _ _ _ _ (by omega)).mono ?_; rintro e w2 ⟨rfl, rfl⟩)) | fail)
    go_ret
    exact ⟨rfl, rfl⟩
  · rw [e]
    clear e
    have q1 : (c == 215) = false := by simp; omega
    have q2 : (c == 247) = false := by simp; omega
    go_enter Tryd.func26, Tryd.ntmps26
    go_wp2_with (first | (go_at_call 36; first | (refine (rin_t _ _ _ _ (by omega)).mono ?_; rintro e w2 ⟨rfl, rfl⟩) | (refine (rin_f _ _ _ _ (by omega)).mono ?_; rintro e w2 ⟨rfl, rfl⟩)) | fail)
    go_ret
    exact ⟨rfl, rfl⟩
  · rw [e]
    clear e
    have q1 : (c == 215) = false := by simp; omega
    have q2 : (c == 247) = false := by simp; omega
    go_enter Tryd.func26, Tryd.ntmps26
    go_wp2_with (first | (go_at_call 36; first | (refine (rin_t _ _ _ _ (by omega)).mono ?_; rintro e w2 ⟨rfl, rfl⟩) | (refine (rin_f _ _ _ _ (by omega)).mono ?_; rintro e w2 ⟨rfl, rfl⟩)) | fail)
    go_ret
    exact ⟨rfl, rfl⟩
  · rw [e]
    clear e
    have q1 : (c == 215) = false := by simp; omega
    have q2 : (c == 247) = false := by simp; omega
    go_enter Tryd.func26, Tryd.ntmps26
    go_wp2_with (first | (go_at_call 36; first | (refine (rin_t _ _ _ _ (by omega)).mono ?_; rintro e w2 ⟨rfl, rfl⟩) | (refine (rin_f _ _ _ _ (by omega)).mono ?_; rintro e w2 ⟨rfl, rfl⟩)) | fail)
    go_ret
    exact ⟨rfl, rfl⟩
  · rw [e]
    clear e
    have q1 : (c == 215) = false := by simp; omega
    have q2 : (c == 247) = false := by simp; omega
    go_enter Tryd.func26, Tryd.ntmps26
    go_wp2_with (first | (go_at_call 36; first | (refine (rin_t _ _ _ _ (by omega)).mono ?_; rintro e w2 ⟨rfl, rfl⟩) | (refine (rin_f _ _ _ _ (by omega)).mono ?_; rintro e w2 ⟨rfl, rfl⟩)) | fail)
    go_ret
    exact ⟨rfl, rfl⟩
  · rw [e]
    clear e
    have q1 : (c == 215) = false := by simp; omega
    have q2 : (c == 247) = false := by simp; omega
    go_enter Tryd.func26, Tryd.ntmps26
    go_wp2_with (first | (go_at_call 36; first | (refine (rin_t _ _ _ _ (by omega)).mono ?_; rintro e w2 ⟨rfl, rfl⟩) | (refine (rin_f _ _ _ _ (by omega)).mono ?_; rintro e w2 ⟨rfl, rfl⟩)) | fail)
    go_ret
    exact ⟨rfl, rfl⟩
  · rw [e]
    clear e
    have q1 : (c == 215) = false := by simp; omega
    have q2 : (c == 247) = false := by simp; omega
    go_enter Tryd.func26, Tryd.ntmps26
    go_wp2_with (first | (go_at_call 36; first | (refine (rin_t _ _ _ _ (by omega)).mono ?_; rintro e w2 ⟨rfl, rfl⟩) | (refine (rin_f _ _ _ _ (by omega)).mono ?_; rintro e w2 ⟨rfl, rfl⟩)) | fail)
    go_ret
    exact ⟨rfl, rfl⟩
  · rw [e]
    clear e
    have q1 : (c == 215) = false := by simp; omega
    have q2 : (c == 247) = false := by simp; omega
    go_enter Tryd.func26, Tryd.ntmps26
    go_wp2_with (first | (go_at_call 36; first | (refine (rin_t _ _ _ _ (by omega)).mono ?_; rintro e w2 ⟨rfl, rfl⟩) | (refine (rin_f _ _ _ _ (by omega)).mono ?_; rintro e w2 ⟨rfl, rfl⟩)) | fail)
    go_ret
    exact ⟨rfl, rfl⟩
  · rw [e]
    clear e
    have q1 : (c == 215) = false := by simp; omega
    have q2 : (c == 247) = false := by simp; omega
    go_enter Tryd.func26, Tryd.ntmps26
    go_wp2_with (first | (go_at_call 36; first | (refine (rin_t _ _ _ _ (by omega)).mono ?_; rintro e w2 ⟨rfl, rfl⟩) | (refine (rin_f _ _ _ _ (by omega)).mono ?_; rintro e w2 ⟨rfl, rfl⟩)) | fail)
    go_ret
    exact ⟨rfl, rfl⟩
  · rw [e]
    clear e
    go_enter Tryd.func26, Tryd.ntmps26
    go_wp2_with (first | (go_at_call 36; first | (refine (rin_t _ _ _ _ (by omega)).mono ?_; rintro e w2 ⟨rfl, rfl⟩) | (refine (rin_f _ _ _ _ (by omega)).mono ?_; rintro e w2 ⟨rfl, rfl⟩)) | fail)
    go_ret
    exact ⟨rfl, rfl⟩
  · rw [e]
    clear e
    go_enter Tryd.func26, Tryd.ntmps26
    go_wp2_with (first | (go_at_call 36; first | (refine (rin_t _ _ _ _ (by omega)).mono ?_; rintro e w2 ⟨rfl, rfl⟩) | (refine (rin_f _ _ _ _ (by omega)).mono ?_; rintro e w2 ⟨rfl, rfl⟩)) | fail)
    go_ret
    exact ⟨rfl, rfl⟩
  · rw [e]
    clear e
    have q1 : (c == 215) = false := by simp; omega
    have q2 : (c == 247) = false := by simp; omega
    go_enter Tryd.func26, Tryd.ntmps26
    go_wp2_with (first | (go_at_call 36; first | (refine (rin_t _ _ _ _ (by omega)).mono ?_; rintro e w2 ⟨rfl, rfl⟩) | (refine (rin_f _ _ _ _ (by omega)).mono ?_; rintro e w2 ⟨rfl, rfl⟩)) | fail)
    go_ret
    exact ⟨rfl, rfl⟩
end Go.Proofs.YtledmlgebfbhaaaDoor
