/- Plain laws of layer 8: names. -/
import Derived.Test.YtledmlgebfbhaaaDoorIdnM
namespace Go.Proofs.YtledmlgebfbhaaaDoor
open Go.RowKit
set_option maxRecDepth 10000

/-- the signs that are put down for one -/
def msF (c : Int) : List Int := if (mapF c).2 = 2 then toF c else if (mapF c).2 = 1 then [c] else []
theorem map_ms (c : Int) : (mapF c).1 = joinF (msF c) := by
  unfold msF
  rcases map_kinds c with ⟨e, h0, h1⟩ | ⟨e, h1, h2⟩ | e | e
  all_goals rw [e]
  · simp [join_one]
  · simp
  · simp [joinF]
  · simp [joinF]
theorem ms_ok (c : Int) : ∀ x ∈ msF c, mapF x = (enc x, 1) ∧ Utf8.valid x = true := by
  intro x hx
  unfold msF at hx
  rcases map_kinds c with ⟨e, h0, h1⟩ | ⟨e, h1, h2⟩ | e | e
  all_goals rw [e] at hx
  · simp at hx
    subst hx
    refine ⟨e, ?_⟩
    exact signs_valid (enc x) x (by rw [h1]; simp)
  · simp at hx
    have := to_targets c x hx
    exact ⟨this.1, this.2.2⟩
  · simp at hx
  · simp at hx
def msL (l : List Int) : List Int := l.flatMap msF
theorem msL_ok (l : List Int) : ∀ x ∈ msL l, mapF x = (enc x, 1) ∧ Utf8.valid x = true := by
  intro x hx
  obtain ⟨c, _, hc⟩ := List.mem_flatMap.mp hx
  exact ms_ok c x hc
theorem told_join : ∀ l : List Int, toldF l = joinF (msL l)
  | [] => rfl
  | c :: r => by
    have ih := told_join r
    have e : toldF (c :: r) = (mapF c).1 ++ toldF r := by simp [toldF]
    have e2 : msL (c :: r) = msF c ++ msL r := by simp [msL]
    rw [e, e2, joinF_append, ih, map_ms]
/-- signs that stand as they are -/
theorem told_same : ∀ {m : List Int}, (∀ x ∈ m, mapF x = (enc x, 1)) → toldF m = joinF m ∧ m.all okM = true
  | [], _ => ⟨rfl, rfl⟩
  | c :: r, h => by
    obtain ⟨h1, h2⟩ := told_same (m := r) (fun x hx => h x (by simp [hx]))
    have hc := h c (by simp)
    have e : toldF (c :: r) = (mapF c).1 ++ toldF r := by simp [toldF]
    rw [e, joinF_cons, h1, hc]
    refine ⟨rfl, ?_⟩
    simp only [List.all_cons, h2, Bool.and_true]
    unfold okM
    rw [hc]; rfl
theorem signs_told (l : List Int) : signs (toldF l) = msL l := by
  rw [told_join]
  have := signs_join (msL l) []
  rw [List.append_nil, signs_nil, List.append_nil, map_fix (fun x hx => (msL_ok l x hx).2)] at this
  exact this
/-- what comes of a text's signs -/
def domS (l : List Int) : Option Bytes := if l.all okM = true then (if (cutD (toldF l)).all okP = true then some (joinD ((cutD (toldF l)).map outP)) else none) else none
theorem dom_signs (b : Bytes) : domF b = domS (signs b) := by unfold domF domS; rw [pieces_cut]
/-- IdnaSteps: what comes of a text comes of what was put down for its signs -/
theorem dom_steps {b : Bytes} (h : (signs b).all okM = true) : domF (toldF (signs b)) = domF b := by
  rw [dom_signs, dom_signs, signs_told]
  obtain ⟨h1, h2⟩ := told_same (m := msL (signs b)) (fun x hx => (msL_ok _ x hx).1)
  unfold domS
  rw [if_pos h2, if_pos h, h1, ← told_join]
theorem dom_bad {b : Bytes} (h : (signs b).all okM = false) : domF b = none := by
  rw [dom_signs]; unfold domS; rw [if_neg (by simp [h])]
theorem k46 : mapF 46 = ([46], 1) := by decide +kernel
theorem told_app (a b : List Int) : toldF (a ++ b) = toldF a ++ toldF b := by simp [toldF]
theorem joinD_app : ∀ (p : Bytes) (ps : List Bytes) (q : Bytes) (qs : List Bytes), joinD ((p :: ps) ++ (q :: qs)) = joinD (p :: ps) ++ 46 :: joinD (q :: qs)
  | p, [], q, qs => by
    rw [List.singleton_append, joinD_cons]
    congr 1
    unfold joinD
    rw [Lib.join_one]
  | p, p2 :: ps, q, qs => by
    have ih := joinD_app p2 ps q qs
    rw [List.cons_append] at ih ⊢
    rw [List.cons_append, joinD_cons, ih, joinD_cons, List.append_assoc]
    rfl
/-- IdnaLabels: a name is written label by label -/
theorem dom_labels (a b : Bytes) : domF (a ++ 46 :: b) = match domF a, domF b with | some x, some y => some (x ++ 46 :: y) | _, _ => none := by
  have hs : signs (a ++ 46 :: b) = signs a ++ 46 :: signs b := by
    rw [signs_app (46 :: b) (.inr ⟨46, b, rfl, .inl (by decide)⟩) a]
    rw [signs_asc b (by decide)]
    rfl
  rw [dom_signs, dom_signs, dom_signs, hs]
  unfold domS
  have hok : okM 46 = true := by decide +kernel
  have ht : toldF (signs a ++ 46 :: signs b) = toldF (signs a) ++ 46 :: toldF (signs b) := by
    rw [told_app]
    have e : toldF (46 :: signs b) = (mapF 46).1 ++ toldF (signs b) := by simp [toldF]
    rw [e, k46]; rfl
  rw [ht, cutD_app]
  simp only [List.all_append, List.all_cons, hok, Bool.true_and]
  cases h1 : (signs a).all okM
  · simp
  · cases h2 : (signs b).all okM
    · simp
    · obtain ⟨p, ps, hp⟩ := cutD_ne (toldF (signs a))
      obtain ⟨q, qs, hq⟩ := cutD_ne (toldF (signs b))
      rw [hp, hq]
      simp only [Bool.true_and, if_true]
      cases h3 : (p :: ps).all okP
      · simp
      · cases h4 : (q :: qs).all okP
        · simp
        · simp only [Bool.true_and, if_true, List.map_append, List.map_cons]
          rw [joinD_app]
/-- IdnaGone: signs that are left out change nothing -/
theorem dom_gone (a b : List Int) {c : Int} (h : (mapF c).2 = 3) : domF (joinF a ++ enc c ++ joinF b) = domF (joinF a ++ joinF b) := by
  have hc : mapF c = ([], 3) := by
    rcases map_kinds c with ⟨e, _⟩ | ⟨e, _⟩ | e | e
    · rw [e] at h; simp at h
    · rw [e] at h; simp at h
    · exact e
    · rw [e] at h; simp at h
  have hv : fix c = c := by
    rcases map_cases c with ⟨b, _, _, _, e⟩ | ⟨_, h2, e⟩ | ⟨_, _, _, e⟩ | ⟨_, _, _, e⟩
    · rw [hc] at e; simp at e
    · refine fix_of ((valid_iff c).mpr ?_)
      unfold gnF at h2
      have := of_decide_eq_true h2
      omega
    · rw [hc] at e; simp at e
    · rw [hc] at e; simp at e
  have e1 : signs (joinF a ++ enc c ++ joinF b) = a.map fix ++ c :: b.map fix := by
    rw [List.append_assoc, signs_join, signs_enc, hv]
    have := signs_join b []
    rw [List.append_nil, signs_nil, List.append_nil] at this
    rw [this]
  have e2 : signs (joinF a ++ joinF b) = a.map fix ++ b.map fix := by
    rw [signs_join]
    have := signs_join b []
    rw [List.append_nil, signs_nil, List.append_nil] at this
    rw [this]
  rw [dom_signs, dom_signs, e1, e2]
  have et : toldF (a.map fix ++ c :: b.map fix) = toldF (a.map fix ++ b.map fix) := by
    rw [told_app, told_app]
    have e : toldF (c :: b.map fix) = (mapF c).1 ++ toldF (b.map fix) := by simp [toldF]
    rw [e, hc]; rfl
  have eo : (a.map fix ++ c :: b.map fix).all okM = (a.map fix ++ b.map fix).all okM := by
    have : okM c = true := by unfold okM; rw [hc]; rfl
    simp only [List.all_append, List.all_cons, this, Bool.true_and]
  unfold domS
  rw [et, eo]
end Go.Proofs.YtledmlgebfbhaaaDoor
