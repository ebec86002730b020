/- Plain laws of layer 8: a name comes of itself; a label's letters. -/
import Derived.Test.YtledmlgebfbhaaaDoorIdnN
import Derived.Test.YtledmlgebfbhaaaDoorIdnH
namespace Go.Proofs.YtledmlgebfbhaaaDoor
open Go.RowKit
set_option maxRecDepth 10000

theorem okS_kind {c : Int} (h : okS c = true) : mapF c = (enc c, 1) ∧ Utf8.valid c = true ∧ c ≠ 46 := by
  have h2 := of_decide_eq_true h
  rcases map_kinds c with ⟨e, h0, h1⟩ | ⟨e, _⟩ | e | e
  · exact ⟨e, signs_valid (enc c) c (by rw [h1]; simp), h2.2⟩
  · rw [e] at h2; simp at h2
  · rw [e] at h2; simp at h2
  · rw [e] at h2; simp at h2
theorem lab_all {l : List Int} (h : labF l = true) : (∀ c ∈ l, okS c = true) ∧ ∃ c ∈ l, 127 < c := by
  unfold labF at h
  rw [Bool.and_eq_true, Bool.and_eq_true] at h
  refine ⟨List.all_eq_true.mp h.1.2, ?_⟩
  obtain ⟨c, hc, hf⟩ := List.any_eq_true.mp h.2
  exact ⟨c, hc, of_decide_eq_true hf⟩
theorem valid_sg {c : Int} (h : Utf8.valid c = true) : sg c = true := by
  have := (valid_iff c).mp h
  exact sg_iff.mpr (by omega)
theorem not_large {c : Int} (h : mapF c = (enc c, 1)) : ¬ (65 ≤ c ∧ c ≤ 90) := by
  intro hc
  have : toF c = [c + 0x20] := by unfold toF; rw [if_pos (by omega)]
  have e := mapF_to (c := c) (by rw [this]; simp)
  rw [h] at e
  have := congrArg Prod.snd e
  simp at this
theorem low_signs {l : List Int} (hv : ∀ c ∈ l, Utf8.valid c = true) (h : lowS (joinF l) = true) : ∀ c ∈ l, c < 0x80 := by
  induction l with
  | nil => simp
  | cons x r ih =>
    rw [joinF_cons, low_app, Bool.and_eq_true] at h
    intro c hc
    rcases List.mem_cons.mp hc with rfl | hc
    · by_cases h1 : c < 0x80
      · exact h1
      · have := (enc_len2 (hv c (by simp)) h1).2
        rw [this] at h
        exact absurd h.1 (by simp)
    · exact ih (fun x hx => hv x (by simp [hx])) h.2 c hc
theorem not_low {l : List Int} (hv : ∀ c ∈ l, Utf8.valid c = true) {c : Int} (hc : c ∈ l) (h : 127 < c) : lowS (joinF l) = false := by
  cases hl : lowS (joinF l)
  · rfl
  · have := low_signs hv hl c hc
    omega
theorem signs_join' {l : List Int} (hv : ∀ c ∈ l, Utf8.valid c = true) : signs (joinF l) = l := by
  have := signs_join l []
  rw [List.append_nil, signs_nil, List.append_nil, map_fix hv] at this
  exact this
theorem cutS_one : ∀ {l : List Int}, (∀ c ∈ l, c ≠ 46) → cutS l = [l]
  | [], _ => rfl
  | x :: r, h => cutS_other (h x (by simp)) (cutS_one (fun c hc => h c (by simp [hc])))
theorem enc_ok {l : List Int} (h : labF l = true) (hl : l.length ≤ 255) : encR l = (encF l, true) ∧ (∀ c ∈ l, sg c = true) ∧ 1 ≤ (encF l).length := by
  obtain ⟨h1, c, hc, hf⟩ := lab_all h
  have hs : ∀ c ∈ l, sg c = true := fun x hx => valid_sg (okS_kind (h1 x hx)).2.1
  refine ⟨?_, hs, ?_⟩
  · unfold encR
    rw [if_neg]
    rintro (h | h)
    · omega
    · exact h (List.all_eq_true.mpr hs)
  · obtain ⟨W, e, _, _, h4⟩ := encF_parts hs hl
    rw [e, List.length_append]
    by_cases hw : W.length = 0
    · exfalso
      have hb := h4 hw
      have hb2 : (bas l).length = (l.filter (fun c => decide (c < 128))).length := by unfold bas; rw [List.length_map]
      rw [hb2] at hb
      have := List.length_filter_eq_length_iff.mp hb c hc
      have := of_decide_eq_true this
      omega
    · omega
/-- IdnaBack: what comes of a label -/
theorem dom_label {l : List Int} (h : labF l = true) (hl : l.length ≤ 255) : domF (joinF l) = if Lib.hasPrefix (joinF l) pre4 = true then none else some (pre4 ++ encF l) := by
  obtain ⟨h1, c, hc, hf⟩ := lab_all h
  have hv : ∀ c ∈ l, Utf8.valid c = true := fun x hx => (okS_kind (h1 x hx)).2.1
  have hsl := signs_join' hv
  obtain ⟨t1, t2⟩ := told_same (m := l) (fun x hx => (okS_kind (h1 x hx)).1)
  have hcut : cutD (joinF l) = [joinF l] := by
    rw [cut_signs l hv, cutS_one (fun x hx => (okS_kind (h1 x hx)).2.2)]
    rfl
  have hlow := not_low hv hc hf
  have hw : wrF (joinF l) = if Lib.hasPrefix (joinF l) pre4 = true then none else some (pre4 ++ encF l) := by
    by_cases hp : Lib.hasPrefix (joinF l) pre4 = true
    · rw [if_pos hp, wr_1 hp hlow]
    · rw [if_neg hp, wr_6 (by simpa using hp) hlow (by rw [hsl]; exact h), hsl, (enc_ok h hl).1]
      rfl
  rw [dom_signs, hsl]
  unfold domS
  rw [if_pos t2, t1, hcut]
  by_cases hp : Lib.hasPrefix (joinF l) pre4 = true
  · rw [if_pos hp] at hw ⊢
    rw [if_neg]
    simp only [List.all_cons, List.all_nil, Bool.and_true]
    unfold okP
    rw [hw]; simp
  · rw [if_neg hp] at hw ⊢
    rw [if_pos]
    · simp only [List.map_cons, List.map_nil]
      unfold joinD outP
      rw [Lib.join_one, hw]
      rfl
    · simp only [List.all_cons, List.all_nil, Bool.and_true]
      unfold okP
      rw [hw]; rfl

/-- a label as it stands in a name -/
def Fine (p : Bytes) : Prop := (∀ y ∈ p, b2 y < 0x80 ∧ ¬ (65 ≤ b2 y ∧ b2 y ≤ 90) ∧ y ≠ 46) ∧ wrF p = some p
theorem pre_has (t : Bytes) : Lib.hasPrefix (pre4 ++ t) pre4 = true := by
  unfold Lib.hasPrefix
  exact List.isPrefixOf_iff_prefix.mpr ⟨t, rfl⟩
theorem low_all {p : Bytes} (h : lowS p = true) : ∀ y ∈ p, b2 y < 0x80 := fun y hy => of_decide_eq_true (List.all_eq_true.mp h y hy)
theorem low_of {p : Bytes} (h : ∀ y ∈ p, b2 y < 0x80) : lowS p = true := List.all_eq_true.mpr fun y hy => decide_eq_true (h y hy)
theorem out_fine {q : List Int} (hq : ∀ c ∈ q, mapF c = (enc c, 1) ∧ Utf8.valid c = true ∧ c ≠ 46) (hok : okP (joinF q) = true) : Fine (outP (joinF q)) := by
  have hv : ∀ c ∈ q, Utf8.valid c = true := fun c hc => (hq c hc).2.1
  have hsl := signs_join' hv
  obtain ⟨y, hy⟩ : ∃ y, wrF (joinF q) = some y := by
    unfold okP at hok
    exact Option.isSome_iff_exists.mp hok
  have ho : outP (joinF q) = y := by unfold outP; rw [hy]; rfl
  rw [ho]
  cases hl : lowS (joinF q)
  · -- letters of puny
    have hp : Lib.hasPrefix (joinF q) pre4 = false := by
      cases hp : Lib.hasPrefix (joinF q) pre4
      · rfl
      · rw [wr_1 hp hl] at hy; cases hy
    have hla : labF (signs (joinF q)) = true := by
      cases hla : labF (signs (joinF q))
      · rw [wr_5 hp hl hla] at hy; cases hy
      · rfl
    rw [wr_6 hp hl hla, hsl] at hy
    rw [hsl] at hla
    have hlen : q.length ≤ 255 ∧ encR q = (encF q, true) := by
      unfold encR at hy ⊢
      split at hy
      · simp at hy
      · next h =>
        rw [if_neg h]
        exact ⟨by omega, rfl⟩
    rw [hlen.2] at hy
    simp only [if_true] at hy
    have hyy : y = pre4 ++ encF q := (Option.some.inj hy).symm
    obtain ⟨_, hs, _⟩ := enc_ok hla hlen.1
    obtain ⟨W, e, hW, _⟩ := encF_parts hs hlen.1
    have hbytes : ∀ z ∈ y, b2 z < 0x80 ∧ ¬ (65 ≤ b2 z ∧ b2 z ≤ 90) ∧ z ≠ 46 := by
      intro z hz
      rw [hyy, e] at hz
      have h46 : b2 46 = 46 := by decide
      rcases List.mem_append.mp hz with hz | hz
      · have : z = 120 ∨ z = 110 ∨ z = 45 := by
          have : z ∈ ([120, 110, 45, 45] : Bytes) := hz
          simp only [List.mem_cons, List.not_mem_nil, or_false] at this
          rcases this with h | h | h | h <;> simp [h]
        rcases this with rfl | rfl | rfl <;> decide
      · rcases List.mem_append.mp hz with hz | hz
        · rcases List.mem_append.mp hz with hz | hz
          · unfold bas at hz
            obtain ⟨c, hc, rfl⟩ := List.mem_map.mp hz
            obtain ⟨hc1, hc2⟩ := List.mem_filter.mp hc
            have hc3 := of_decide_eq_true hc2
            have hk := hq c hc1
            have hr := (valid_iff c).mp hk.2.1
            have hn := not_large hk.1
            have eb : b2 (UInt8.ofNat c.toNat) = c := b2_of (by omega)
            refine ⟨by omega, by omega, fun h => ?_⟩
            rw [h, h46] at eb
            exact hk.2.2 eb.symm
          · unfold hyp at hz
            split at hz
            · simp at hz
            · simp only [List.mem_singleton] at hz
              subst hz
              decide
        · have := hW z hz
          unfold isDg at this
          refine ⟨by omega, by omega, fun h => ?_⟩
          rw [h, h46] at this
          omega
    refine ⟨hbytes, ?_⟩
    have hlow : lowS y = true := low_of fun z hz => (hbytes z hz).1
    rw [hyy] at hlow ⊢
    have hd : (pre4 ++ encF q).drop 4 = encF q := rfl
    rw [wr_3 (pre_has _) hlow (by rw [hd]; exact dec_of_enc hs hlen.1), hla]
    rfl
  · -- it stands as it is
    have hyp : y = joinF q := by
      cases hp : Lib.hasPrefix (joinF q) pre4
      · rw [wr_4 hp hl] at hy; exact (Option.some.inj hy).symm
      · cases hd : decF ((joinF q).drop 4) with
        | none => rw [wr_2 hp hl hd] at hy; cases hy
        | some l =>
          rw [wr_3 hp hl hd] at hy
          split at hy
          · exact (Option.some.inj hy).symm
          · cases hy
    subst hyp
    refine ⟨?_, hy⟩
    have hlt := low_signs hv hl
    intro z hz
    obtain ⟨c, hc, hz⟩ := List.mem_flatMap.mp hz
    have hk := hq c hc
    have hr := (valid_iff c).mp hk.2.1
    have hn := not_large hk.1
    rw [enc_1 (by omega) (hlt c hc)] at hz
    simp only [List.mem_singleton] at hz
    have eb : b2 z = c := by rw [hz]; exact b2_of (by have := hlt c hc; omega)
    have h46 : b2 46 = 46 := by decide
    refine ⟨by have := hlt c hc; omega, by omega, fun h => ?_⟩
    rw [h, h46] at eb
    exact hk.2.2 eb.symm
theorem all_low_join {t : Bytes} (h : ∀ y ∈ t, b2 y < 0x80) : t = joinF (t.map b2) := by
  induction t with
  | nil => rfl
  | cons x r ih =>
    rw [List.map_cons, joinF_cons, enc_asc (h x (by simp)), ← ih (fun y hy => h y (by simp [hy]))]
    rfl
theorem map_low {c : Int} (h0 : 0 ≤ c) (h1 : c < 0x80) (h2 : ¬ (65 ≤ c ∧ c ≤ 90)) : mapF c = (enc c, 1) := mp_valid (by omega) (by unfold vlP; omega)
/-- IdnaOnce: a name that came of a text comes of itself -/
theorem dom_once {b t : Bytes} (h : domF b = some t) : (∀ y ∈ t, b2 y < 0x80 ∧ ¬ (65 ≤ b2 y ∧ b2 y ≤ 90)) ∧ domF t = some t := by
  rw [dom_signs] at h
  unfold domS at h
  split at h
  · split at h
    · next hok =>
      have ht := (Option.some.inj h).symm
      rw [told_join] at ht hok
      have hms := msL_ok (signs b)
      generalize msL (signs b) = m at *
      have hv : ∀ c ∈ m, Utf8.valid c = true := fun c hc => (hms c hc).2
      rw [cut_signs m hv] at ht hok
      have hfine : ∀ o ∈ ((cutS m).map joinF).map outP, Fine o := by
        intro o ho
        obtain ⟨p, hp, rfl⟩ := List.mem_map.mp ho
        obtain ⟨q, hq, rfl⟩ := List.mem_map.mp hp
        refine out_fine (fun c hc => ?_) (List.all_eq_true.mp hok _ hp)
        have hm := cutS_mem m q hq c hc
        exact ⟨(hms c hm.1).1, (hms c hm.1).2, hm.2⟩
      obtain ⟨o, os, hos⟩ : ∃ o os, ((cutS m).map joinF).map outP = o :: os := by
        obtain ⟨p, ps, hp⟩ := cutS_ne m
        rw [hp]; exact ⟨_, _, rfl⟩
      rw [hos] at ht hfine
      have hcut := cut_join o os (fun q hq h2 => ((hfine q hq).1 46 h2).2.2 rfl)
      rw [← ht] at hcut
      have hbytes : ∀ y ∈ t, b2 y < 0x80 ∧ ¬ (65 ≤ b2 y ∧ b2 y ≤ 90) := by
        have key : ∀ (p : Bytes) (ps : List Bytes), (∀ q ∈ p :: ps, Fine q) → ∀ y ∈ joinD (p :: ps), b2 y < 0x80 ∧ ¬ (65 ≤ b2 y ∧ b2 y ≤ 90) := by
          intro p ps
          induction ps generalizing p with
          | nil =>
            intro hf y hy
            unfold joinD at hy
            rw [Lib.join_one] at hy
            have := (hf p (by simp)).1 y hy
            exact ⟨this.1, this.2.1⟩
          | cons q qs ih =>
            intro hf y hy
            rw [joinD_cons] at hy
            rcases List.mem_append.mp hy with hy | hy
            · have := (hf p (by simp)).1 y hy
              exact ⟨this.1, this.2.1⟩
            · rcases List.mem_cons.mp hy with rfl | hy
              · decide
              · exact ih q (fun z hz => hf z (by simp only [List.mem_cons] at hz ⊢; exact .inr hz)) y hy
        rw [ht]
        exact key o os hfine
      refine ⟨hbytes, ?_⟩
      have hj := all_low_join (fun y hy => (hbytes y hy).1)
      have hmap : ∀ c ∈ t.map b2, mapF c = (enc c, 1) ∧ Utf8.valid c = true := by
        intro c hc
        obtain ⟨y, hy, rfl⟩ := List.mem_map.mp hc
        have h1 := hbytes y hy
        have h0 := b2_lt y
        exact ⟨map_low h0.1 h1.1 h1.2, (valid_iff _).mpr (by omega)⟩
      have hsg : signs t = t.map b2 := by
        conv => lhs; rw [hj]
        exact signs_join' (fun c hc => (hmap c hc).2)
      obtain ⟨t1, t2⟩ := told_same (m := t.map b2) (fun c hc => (hmap c hc).1)
      rw [← hj] at t1
      rw [dom_signs, hsg]
      unfold domS
      rw [if_pos t2, t1, hcut]
      have hout : (o :: os).map outP = o :: os := by
        conv => rhs; rw [← List.map_id (o :: os)]
        refine List.map_congr_left fun q hq => ?_
        unfold outP
        rw [(hfine q hq).2]; rfl
      rw [if_pos, hout, ← ht]
      exact List.all_eq_true.mpr fun q hq => by unfold okP; rw [(hfine q hq).2]; rfl
    · cases h
  · cases h
end Go.Proofs.YtledmlgebfbhaaaDoor
