/- idna.Domain. -/
import Derived.Test.YtledmlgebfbhaaaDoorIdnG
import Derived.Shelf.Strings.Split
import Derived.Shelf.Strings.OnBuilder
import Derived.Laws.OwnMore
namespace Go.Proofs.YtledmlgebfbhaaaDoor
open Go.RowKit
set_option maxRecDepth 10000

/-- what the walks ask of the world: the tables of unicode/utf8, and a number in bytealg's MaxLen -/
def Env (w : World) : Prop := Tabs w ∧ ∃ m, w.cell? ⟨0, 0, none⟩ = some (.int .i64 m)
theorem Env.lt {w : World} (h : Env w) : 0 < w.heap.size := by
  obtain ⟨_, m, hm⟩ := h
  exact block_lt_of_cell hm
theorem Env.below {w w' : World} (h : Env w) (hb : Below w.heap.size w w') : Env w' := by
  obtain ⟨h1, m, hm⟩ := h
  exact ⟨h1.below hb, m, (hb.cell (p := ⟨0, 0, none⟩) (block_lt_of_cell hm)).trans hm⟩

def okM (c : Int) : Bool := decide ((mapF c).2 ≠ 0)
def toldF (l : List Int) : Bytes := l.flatMap (fun c => (mapF c).1)
theorem told_snoc {l : List Int} {k : Nat} (h : k < l.length) : toldF (l.take (k + 1)) = toldF (l.take k) ++ (mapF l[k]).1 := by
  unfold toldF
  rw [List.take_succ_eq_append_getElem h, List.flatMap_append]
  simp
theorem to_join_len (c : Int) : (joinF (toF c)).length ≤ 12 := by
  have h1 := joinF_len (toF c)
  have h2 := toF_len c
  omega
theorem map_len (c : Int) : (mapF c).1.length ≤ 12 := by
  have h1 := to_join_len c
  have h2 := (enc_len c).2
  unfold mapF
  split
  · exact h1
  split
  · simp
  split
  · simp only; omega
  · simp
theorem told_len : ∀ l : List Int, (toldF l).length ≤ 12 * l.length
  | [] => by simp [toldF]
  | c :: r => by
    have := told_len r
    have := map_len c
    have e : toldF (c :: r) = (mapF c).1 ++ toldF r := by simp [toldF]
    rw [e, List.length_append, List.length_cons]; omega
/-- the pieces between the dots -/
def dotB : ByteArray := ⟨#[46]⟩
def pieces (t : Bytes) : List Bytes := (Lib.splitB dotB 0 (Lib.countB (bs t) dotB) (bs t)).map ls
def okP (p : Bytes) : Bool := (wrF p).isSome
def outP (p : Bytes) : Bytes := (wrF p).getD []
def joinD (ps : List Bytes) : Bytes := Lib.join ps [46]
def domF (b : Bytes) : Option Bytes :=
  if (signs b).all okM = true then (if (pieces (toldF (signs b))).all okP = true then some (joinD ((pieces (toldF (signs b))).map outP)) else none) else none
theorem dom_1 {b : Bytes} {k : Nat} (h : k < (signs b).length) (hb : (mapF (signs b)[k]).2 = 0) : domF b = none := by
  unfold domF
  rw [if_neg]
  intro ha
  have := List.all_eq_true.mp ha _ (List.getElem_mem h)
  unfold okM at this
  simp [hb] at this
theorem dom_2 {b : Bytes} (h : (signs b).all okM = true) {p : Bytes} (hp : p ∈ pieces (toldF (signs b))) (hb : wrF p = none) : domF b = none := by
  unfold domF
  rw [if_pos h, if_neg]
  intro ha
  have := List.all_eq_true.mp ha _ hp
  unfold okP at this
  simp [hb] at this
theorem dom_3 {b : Bytes} (h : (signs b).all okM = true) (h2 : (pieces (toldF (signs b))).all okP = true) : domF b = some (joinD ((pieces (toldF (signs b))).map outP)) := by
  unfold domF
  rw [if_pos h, if_pos h2]
abbrev Strs (l : List Bytes) : List Value := l.map fun b => Value.string (bs b)
theorem fr_step {b0 : Nat} {g : Option Nat} {w2 wr w3 w4 : World} (h : Fr (fun k => k = b0) w2 wr) (hb : Below wr.heap.size wr w3) (hr : Fr (fun k => k = b0 ∨ g = some k) w3 w4) (hg : ∀ k, g = some k → w2.heap.size ≤ k) : Fr (fun k => k = b0) w2 w4 := by
  have h1 := h.trans (Fr.of_below hb)
  refine ⟨hr.os.trans h1.os, hr.tape.trans h1.tape, hr.output.trans h1.output, Nat.le_trans h1.size hr.size, fun k hk hn => ?_⟩
  refine (hr.block k (Nat.lt_of_lt_of_le hk h1.size) ?_).trans (h1.block k hk hn)
  rintro (h2 | h2)
  · exact hn h2
  · have := hg k h2; omega
/-- a slice of the call's own: where it lies -/
theorem own_where {w : World} {base e n : Nat} {v : Value} {xs : List Value} (h : w.ownsRow base e 1 v n xs) : (v = .slice none 0 0 ∧ xs = []) ∨ ∃ g c, v = .slice (some ⟨g, 0, none⟩) n c ∧ base ≤ g ∧ g < w.heap.size ∧ ∀ j (hj : j < xs.length), w.cell? ⟨g, 0 + j, none⟩ = some xs[j] := by
  have hl := h.1
  rcases h.2 with ⟨rfl, rfl⟩ | ⟨g, cap, cur, rfl, hg, hb, hn, hm, hsz, htk⟩
  · exact .inl ⟨rfl, List.eq_nil_of_length_eq_zero (by omega)⟩
  · refine .inr ⟨g, cap, rfl, hg, ?_, fun j hj => ?_⟩
    · rcases Nat.lt_or_ge g w.heap.size with hlt | hge
      · exact hlt
      · rw [Array.getElem?_eq_none hge] at hb; cases hb
    · have := h.cells (g := g) rfl j xs[j] (by simp)
      rwa [addr_add] at this
theorem out_len (p : Bytes) : (outP p).length ≤ 3004 + p.length := by
  unfold outP wrF
  have h2 := encR_len (signs p)
  split
  · split
    · split
      · split <;> simp
      · simp
    · simp
  · split
    · simp
    · split
      · split
        · rw [Option.getD_some, List.length_append]
          have : pre4.length = 4 := rfl
          omega
        · simp
      · simp
theorem split_le : ∀ (k : Nat) (s : ByteArray), ∀ p ∈ Lib.splitB dotB 0 k s, p.size ≤ s.size
  | 0, s, p, h => by
    rw [Lib.splitB_zero] at h
    simp at h; subst h; exact Nat.le_refl _
  | k + 1, s, p, h => by
    rcases Lib.indexB_cases s dotB with hi | ⟨i, hi, hle⟩
    · rw [Lib.splitB_miss _ _ _ _ hi] at h
      simp at h; subst h; exact Nat.le_refl _
    · rw [Lib.splitB_hit _ _ _ _ i hi] at h
      rcases List.mem_cons.mp h with rfl | h
      · simp [ByteArray.size_extract]; omega
      · have := split_le k _ p h
        simp only [ByteArray.size_extract] at this
        omega
theorem pieces_num (t : Bytes) : (pieces t).length = Lib.countB (bs t) dotB + 1 ∧ Lib.countB (bs t) dotB ≤ t.length := by
  have h1 := Lib.countB_le dotB (by decide) _ (bs t) (Nat.le_refl _)
  have h2 := Lib.splitB_all dotB (by decide) 0 _ (bs t) rfl
  rw [bs_size] at h1
  exact ⟨by unfold pieces; rw [List.length_map, h2], h1⟩
theorem pieces_len {t p : Bytes} (h : p ∈ pieces t) : p.length ≤ t.length := by
  unfold pieces at h
  obtain ⟨q, hq, rfl⟩ := List.mem_map.mp h
  have := split_le _ _ q hq
  rw [bs_size] at this
  rw [ls_length]; exact this
theorem lens_le (M : Nat) : ∀ ps : List Bytes, (∀ p ∈ ps, p.length ≤ M) → Lib.lens ps ≤ ps.length * M
  | [], _ => by simp [Lib.lens]
  | x :: r, h => by
    have ih := lens_le M r (fun p hp => h p (by simp [hp]))
    have hx := h x (by simp)
    have e : Lib.lens (x :: r) = x.length + Lib.lens r := by simp [Lib.lens]
    rw [e, List.length_cons, Nat.add_mul, Nat.one_mul]; omega
theorem join_len (M : Nat) (ps : List Bytes) (h : ∀ p ∈ ps, p.length ≤ M) : (joinD ps).length ≤ ps.length * (M + 1) := by
  unfold joinD
  cases ps with
  | nil => simp [Lib.join_nil]
  | cons x r =>
    have hx := h x (by simp)
    have hl := lens_le M r (fun p hp => h p (by simp [hp]))
    have e1 : ([46] : List UInt8).length = 1 := rfl
    have e2 : (x :: r).length = r.length + 1 := rfl
    rw [Lib.join_cons, List.length_append, Lib.joinTail_length, e1, e2, Nat.add_mul, Nat.mul_add]
    omega
theorem split_dot (t : Bytes) (w : World) (hE : Env w) (ht : t.length ≤ 1000000) :
    Calls Tryd.prog 29 #[.string (bs t), .string ⟨#[46]⟩] w fun e w' => e = .returned (.slice (some ⟨w.heap.size, 0, none⟩) (pieces t).length (pieces t).length) ∧ w' = w.alloc (.cells (Strs (pieces t)).toArray 9) := by
  obtain ⟨_, m, hm⟩ := hE
  have h := Any.strings_Split Tryd.laysSplit (by kernel_rfl) (bs t) dotB m w (by rw [bs_size]; omega) hm (by decide)
  have e : Strs (pieces t) = (Lib.splitB dotB 0 (Lib.countB (bs t) dotB) (bs t)).map Value.string := by
    show (List.map ls _).map (fun b => Value.string (bs b)) = _
    rw [List.map_map]
    refine List.map_congr_left fun x _ => ?_
    simp
  rw [(pieces_num t).1, e]
  exact h
theorem bldj_extra : Builder.Extra Tryd.prog Tryd.laysJoin_ren := {
  sizeBuilder := by kernel_rfl,
  liesBuilder := by kernel_rfl,
  t5 := Tryd.underlying5,
  a5 := Tryd.isAgg5,
  z5 := Tryd.sizeOf5,
  v5 := Tryd.zeroValue5,
  infoByte := by kernel_rfl,
  cellsByte := by kernel_rfl,
  sizeByte := by kernel_rfl,
  neB5 := by decide }
theorem join_dots (g n c : Nat) (ps : List Bytes) (w : World) (h : ∀ j (hj : j < ps.length), w.cell? ⟨g, 0 + j, none⟩ = some (.string (bs ps[j]))) (hg : g < w.heap.size) (hn : n = ps.length) (hc : n ≤ c) (hl : n ≤ 1000000) (hM : ∀ p ∈ ps, p.length ≤ 1000000) :
    Calls Tryd.prog 32 #[.slice (some ⟨g, 0, none⟩) n c, .string ⟨#[46]⟩] w fun e w' => e = .returned (S (joinD ps)) ∧ Below w.heap.size w w' := by
  subst hn
  have hmap : (ps.map bs).map (·.data.toList) = ps := by rw [List.map_map]; conv => rhs; rw [← List.map_id ps]
                                                         refine List.map_congr_left fun x _ => ?_
                                                         exact ls_bs x
  have hj := join_len 1000000 ps hM
  have hj2 : ps.length * 1000001 ≤ 1000000 * 1000001 := Nat.mul_le_mul_right _ hl
  have h1 := Any.strings_Join Tryd.laysJoin bldj_extra g 0 c (ps.map bs) dotB w (fun j x hx => by
      rw [List.getElem?_map] at hx
      cases hp : ps[j]? with
      | none => rw [hp] at hx; cases hx
      | some p =>
        rw [hp] at hx
        obtain ⟨hjl, rfl⟩ := List.getElem?_eq_some_iff.1 hp
        cases hx
        exact h j hjl) hg (by rw [List.length_map]; omega) (by rw [List.length_map]; exact hc)
    (by rw [hmap]; show (joinD ps).length ≤ _; omega)
  rw [hmap, List.length_map] at h1
  exact h1
end Go.Proofs.YtledmlgebfbhaaaDoor
