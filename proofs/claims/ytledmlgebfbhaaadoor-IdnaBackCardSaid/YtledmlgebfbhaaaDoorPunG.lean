/- puny: what Encode computes, in plain Lean. -/
import Derived.Test.YtledmlgebfbhaaaDoorPunF
namespace Go.Proofs.YtledmlgebfbhaaaDoor
open Go.RowKit

/-- where the text of a row stands: what was written, the number that goes on, how many signs are done, the bias, is it the first number -/
structure En where
  out : Bytes
  d : Int
  done : Int
  bias : Int
  first : Bool
def rowStep (sign c : Int) (s : En) : En :=
  if c = sign then ⟨s.out ++ digs (if c < sign then s.d + 1 else s.d) s.bias, 0, s.done + 1, nb (if c < sign then s.d + 1 else s.d) (s.done + 1) s.first, false⟩
  else ⟨s.out, if c < sign then s.d + 1 else s.d, s.done, s.bias, s.first⟩
/-- one sign, over the whole row -/
def rowGo (sign : Int) : List Int → En → En
  | [], s => s
  | c :: r, s => rowGo sign r (rowStep sign c s)
theorem rowGo_step {l : List Int} {k : Nat} (h : k < l.length) (sign : Int) (s : En) : rowGo sign (l.drop k) s = rowGo sign (l.drop (k + 1)) (rowStep sign l[k] s) := by
  rw [List.drop_eq_getElem_cons h]; rfl
theorem rowGo_app (sign : Int) : ∀ (l m : List Int) (s : En), rowGo sign (l ++ m) s = rowGo sign m (rowGo sign l s)
  | [], _, _ => rfl
  | _ :: r, m, s => rowGo_app sign r m (rowStep sign _ s)
theorem rowGo_snoc (sign : Int) {l : List Int} {k : Nat} (h : k < l.length) (s : En) : rowGo sign (l.take (k + 1)) s = rowStep sign l[k] (rowGo sign (l.take k) s) := by
  rw [List.take_succ_eq_append_getElem h, rowGo_app]; rfl
def encGo : Nat → List Int → Int → En → Bytes
  | 0, _, _, s => s.out
  | f + 1, l, sign, s =>
    if s.done < l.length then
      let m := lsF l sign (-1)
      let t := rowGo m l ⟨s.out, s.d + (m - sign) * (s.done + 1), s.done, s.bias, s.first⟩
      encGo f l (m + 1) ⟨t.out, t.d + 1, t.done, t.bias, t.first⟩
    else s.out
/-- the signs below 128 -/
def bas (l : List Int) : Bytes := (l.filter (fun c => decide (c < 128))).map (fun c => UInt8.ofNat c.toNat)
def hyp (b : Bytes) : Bytes := if b.length = 0 then [] else [45]
def encF (l : List Int) : Bytes := encGo l.length l 128 ⟨bas l ++ hyp (bas l), 0, (bas l).length, 72, true⟩

/-- how many are below -/
def cnt (l : List Int) (sign : Int) : Nat := (l.filter (fun c => decide (c < sign))).length
/-- how many are just it -/
def eqs (l : List Int) (sign : Int) : Nat := (l.filter (fun c => decide (c = sign))).length
theorem cnt_le (l : List Int) (sign : Int) : cnt l sign ≤ l.length := List.length_filter_le _ _
theorem cnt_succ (sign : Int) : ∀ l : List Int, cnt l (sign + 1) = cnt l sign + eqs l sign
  | [] => rfl
  | c :: r => by
    have ih := cnt_succ sign r
    unfold cnt eqs at *
    by_cases h1 : c < sign
    · rw [List.filter_cons_of_pos (by simp; omega), List.filter_cons_of_pos (by simp; omega), List.filter_cons_of_neg (by simp; omega)]
      simp only [List.length_cons]; omega
    · by_cases h2 : c = sign
      · rw [List.filter_cons_of_pos (by simp; omega), List.filter_cons_of_neg (by simp; omega), List.filter_cons_of_pos (by simp; omega)]
        simp only [List.length_cons]; omega
      · rw [List.filter_cons_of_neg (by simp; omega), List.filter_cons_of_neg (by simp; omega), List.filter_cons_of_neg (by simp; omega)]
        omega
theorem cnt_same {m sign : Int} (hm : sign ≤ m) : ∀ {l : List Int}, (∀ c ∈ l, sign ≤ c → m ≤ c) → cnt l m = cnt l sign
  | [], _ => rfl
  | c :: r, h => by
    have ih := cnt_same hm (l := r) (fun c hc => h c (by simp [hc]))
    have hc := h c (by simp)
    unfold cnt at *
    by_cases h1 : c < sign
    · rw [List.filter_cons_of_pos (by simp; omega), List.filter_cons_of_pos (by simp; omega)]
      simp only [List.length_cons]; omega
    · have := hc (by omega)
      rw [List.filter_cons_of_neg (by simp; omega), List.filter_cons_of_neg (by simp; omega)]
      exact ih
theorem eqs_pos {m : Int} {l : List Int} (h : m ∈ l) : 1 ≤ eqs l m := by
  unfold eqs
  exact List.length_pos_of_mem (List.mem_filter.mpr ⟨h, by simp⟩)
theorem cnt_lt {l : List Int} {sign : Int} (h : cnt l sign < l.length) : ∃ c ∈ l, sign ≤ c := by
  by_cases hn : ∃ c ∈ l, sign ≤ c
  · exact hn
  · exfalso
    have : l.filter (fun c => decide (c < sign)) = l := List.filter_eq_self.mpr fun c hc => by
      simp only [decide_eq_true_eq]
      by_cases h2 : c < sign
      · exact h2
      · exact absurd ⟨c, hc, by omega⟩ hn
    unfold cnt at h
    rw [this] at h
    omega

theorem lsF_spec : ∀ (l : List Int) (low f : Int), 0 ≤ low → (f < 0 ∨ low ≤ f) →
    (lsF l low f = f ∧ ∀ c ∈ l, low ≤ c → 0 ≤ f ∧ f ≤ c) ∨ (lsF l low f ∈ l ∧ low ≤ lsF l low f ∧ (∀ c ∈ l, low ≤ c → lsF l low f ≤ c) ∧ (0 ≤ f → lsF l low f ≤ f))
  | [], low, f, _, _ => .inl ⟨rfl, by simp⟩
  | x :: r, low, f, hl, hf => by
    have e : lsF (x :: r) low f = lsF r low (if low ≤ x ∧ (f < 0 ∨ x < f) then x else f) := rfl
    by_cases h : low ≤ x ∧ (f < 0 ∨ x < f)
    · rw [if_pos h] at e
      have ih := lsF_spec r low x hl (.inr h.1)
      rw [e]
      right
      rcases ih with ⟨h1, h2⟩ | ⟨h1, h2, h3, h4⟩
      · refine ⟨by rw [h1]; simp, by rw [h1]; exact h.1, fun c hc hlc => ?_, fun h0 => by rw [h1]; omega⟩
        rw [h1]
        rcases List.mem_cons.mp hc with rfl | hc
        · exact Int.le_refl _
        · exact (h2 c hc hlc).2
      · have h5 := h4 (by omega)
        refine ⟨by simp [h1], h2, fun c hc hlc => ?_, fun h0 => by omega⟩
        rcases List.mem_cons.mp hc with rfl | hc
        · exact h5
        · exact h3 c hc hlc
    · rw [if_neg h] at e
      have ih := lsF_spec r low f hl hf
      rw [e]
      rcases ih with ⟨h1, h2⟩ | ⟨h1, h2, h3, h4⟩
      · left
        refine ⟨h1, fun c hc hlc => ?_⟩
        rcases List.mem_cons.mp hc with rfl | hc
        · omega
        · exact h2 c hc hlc
      · right
        refine ⟨by simp [h1], h2, fun c hc hlc => ?_, h4⟩
        rcases List.mem_cons.mp hc with rfl | hc
        · have : 0 ≤ f ∧ f ≤ c := by omega
          have := h4 this.1
          omega
        · exact h3 c hc hlc
theorem lsF_least {l : List Int} {low : Int} (h0 : 0 ≤ low) (h : ∃ c ∈ l, low ≤ c) : lsF l low (-1) ∈ l ∧ low ≤ lsF l low (-1) ∧ ∀ c ∈ l, low ≤ c → lsF l low (-1) ≤ c := by
  rcases lsF_spec l low (-1) h0 (.inl (by omega)) with ⟨h1, h2⟩ | ⟨h1, h2, h3, _⟩
  · obtain ⟨c, hc, hl⟩ := h
    have := (h2 c hc hl).1
    omega
  · exact ⟨h1, h2, h3⟩
theorem lsR_lsF : ∀ (l : List Int) (low f m : Int), 0 ≤ low → (∀ c ∈ l, c ≤ 0x10ffff) → ((f < 0 ∧ m = 0x110000) ∨ (0 ≤ f ∧ f = m)) →
    (lsF l low f < 0 ∧ lsR l low m = 0x110000) ∨ (0 ≤ lsF l low f ∧ lsF l low f = lsR l low m)
  | [], low, f, m, _, _, h => h
  | x :: r, low, f, m, hl, hb, h => by
    have e1 : lsF (x :: r) low f = lsF r low (if low ≤ x ∧ (f < 0 ∨ x < f) then x else f) := rfl
    have e2 : lsR (x :: r) low m = lsR r low (if low ≤ x then min m x else m) := rfl
    rw [e1, e2]
    refine lsR_lsF r low _ _ hl (fun c hc => hb c (by simp [hc])) ?_
    have hx := hb x (by simp)
    split <;> split <;> omega
theorem lsR_eq {l : List Int} {low : Int} (h0 : 0 ≤ low) (hb : ∀ c ∈ l, c ≤ 0x10ffff) (h : ∃ c ∈ l, low ≤ c) : lsR l low 0x110000 = lsF l low (-1) := by
  rcases lsR_lsF l low (-1) 0x110000 h0 hb (.inl ⟨by omega, rfl⟩) with ⟨h1, _⟩ | ⟨_, h2⟩
  · have := (lsF_least h0 h).2.1
    omega
  · exact h2.symm

theorem biasGo_range : ∀ (f : Nat) (e k : Int), 0 ≤ e → 0 ≤ k → 0 ≤ biasGo f e k ∧ biasGo f e k ≤ k + 36 * f + 36
  | 0, e, k, he, hk => by
    have h1 : 0 ≤ 36 * e / (e + 38) := Int.ediv_nonneg (by omega) (by omega)
    have h2 : 36 * e / (e + 38) ≤ 36 := by
      refine Int.ediv_le_of_le_mul (by omega) ?_
      omega
    unfold biasGo
    omega
  | f + 1, e, k, he, hk => by
    unfold biasGo
    split
    · have := biasGo_range f (e / 35) (k + 36) (by omega) (by omega)
      omega
    · have h1 : 0 ≤ 36 * e / (e + 38) := Int.ediv_nonneg (by omega) (by omega)
      have h2 : 36 * e / (e + 38) ≤ 36 := by
        refine Int.ediv_le_of_le_mul (by omega) ?_
        omega
      omega
theorem nb_range {d n : Int} (first : Bool) (hd : 0 ≤ d) (hn : 1 ≤ n) : 0 ≤ nb d n first ∧ nb d n first ≤ 2400 := by
  unfold nb
  have h0 : 0 ≤ (if first then d / 700 else d / 2) := by split <;> omega
  have h1 : 0 ≤ (if first then d / 700 else d / 2) / n := Int.ediv_nonneg h0 (by omega)
  have := biasGo_range 64 ((if first then d / 700 else d / 2) + (if first then d / 700 else d / 2) / n) 0 (by omega) (by omega)
  simp only
  omega
theorem dgGo_len : ∀ (f j : Nat) (d bias : Int), 1 ≤ (dgGo f j d bias).length ∧ (dgGo f j d bias).length ≤ f + 1
  | 0, j, d, bias => by simp [dgGo]
  | f + 1, j, d, bias => by
    unfold dgGo
    split
    · simp
    · have := dgGo_len f (j + 1) ((d - bnd j bias) / (36 - bnd j bias)) bias
      simp only [List.length_cons]
      omega
theorem digs_len (d bias : Int) : 1 ≤ (digs d bias).length ∧ (digs d bias).length ≤ 41 := dgGo_len 40 0 d bias

/-- what holds along one sign's way over the row -/
theorem rowGo_inv (sign : Int) (l : List Int) (s : En) (hd : 0 ≤ s.d) (hdn : 0 ≤ s.done) (hb : 0 ≤ s.bias ∧ s.bias ≤ 2400) :
    ∀ k, k ≤ l.length → 0 ≤ (rowGo sign (l.take k) s).d ∧ (rowGo sign (l.take k) s).d ≤ s.d + k ∧ (rowGo sign (l.take k) s).done = s.done + eqs (l.take k) sign ∧
      0 ≤ (rowGo sign (l.take k) s).bias ∧ (rowGo sign (l.take k) s).bias ≤ 2400 ∧ (rowGo sign (l.take k) s).out.length ≤ s.out.length + 41 * eqs (l.take k) sign
  | 0, _ => by
    rw [List.take_zero]
    have : eqs [] sign = 0 := rfl
    show 0 ≤ s.d ∧ _
    refine ⟨hd, ?_, ?_, hb.1, hb.2, ?_⟩
    · show s.d ≤ s.d + _; omega
    · show s.done = _; rw [this]; omega
    · show s.out.length ≤ _; omega
  | k + 1, hk => by
    have hx : k < l.length := by omega
    obtain ⟨h1, h2, h3, h4, h5, h6⟩ := rowGo_inv sign l s hd hdn hb k (by omega)
    rw [rowGo_snoc sign hx, List.take_succ_eq_append_getElem hx]
    have he : eqs (l.take k ++ [l[k]]) sign = eqs (l.take k) sign + if l[k] = sign then 1 else 0 := by
      unfold eqs
      rw [List.filter_append, List.length_append]
      by_cases h : l[k] = sign
      · rw [if_pos h, List.filter_cons_of_pos (by simp [h])]; rfl
      · rw [if_neg h, List.filter_cons_of_neg (by simp [h])]; rfl
    rw [he]
    generalize rowGo sign (l.take k) s = t at *
    generalize eqs (l.take k) sign = q at *
    unfold rowStep
    by_cases h : l[k] = sign
    · rw [if_pos h, if_pos h]
      rw [if_neg (by omega)]
      have hn := nb_range (d := t.d) (n := t.done + 1) t.first h1 (by omega)
      have hl := digs_len t.d t.bias
      refine ⟨Int.le_refl _, ?_, ?_, hn.1, hn.2, ?_⟩
      · show (0 : Int) ≤ _; omega
      · show t.done + 1 = _; omega
      · show (t.out ++ digs t.d t.bias).length ≤ _; rw [List.length_append]; omega
    · rw [if_neg h, if_neg h]
      refine ⟨?_, ?_, ?_, h4, h5, ?_⟩
      · dsimp only; split <;> omega
      · dsimp only; split <;> omega
      · show t.done = _; omega
      · show t.out.length ≤ _; omega
end Go.Proofs.YtledmlgebfbhaaaDoor
