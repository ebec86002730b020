/- IdnI IdnL IdnM IdnN IdnO IdnJ IdnQ: joined. -/
import Derived.Shelf.Strings.Split
import Derived.Shelf.Strings.OnBuilder
import Derived.Laws.OwnMore
import Derived.Test.YtjgenpooedkfmaaGreatDoorGIdnG
/- idna.Domain. -/
namespace Go.Proofs.YtjgenpooedkfmaaGreatDoor
open Go.RowKit
set_option maxRecDepth 10000

/-- what the walks ask of the world: the tables of unicode/utf8, and a number in bytealg's MaxLen -/
def Env (w : World) : Prop := Tabs w ∧ ∃ m, w.cell? ⟨0, 0, none⟩ = some (.int .i64 m)
theorem Env.lt {w : World} (h : Env w) : 0 < w.heap.size := by
  obtain ⟨_, m, hm⟩ := h
  exact block_lt_of_cell hm
theorem Env.below {w w' : World} (h : Env w) (hb : Below w.heap.size w w') : Env w' := by
  obtain ⟨h1, m, hm⟩ := h
  exact ⟨h1.below hb, m, (hb.cell (p := ⟨0, 0, none⟩) (block_lt_of_cell hm)).trans hm⟩

def okM (c : Int) : Bool := decide ((mapF c).2 ≠ 0)
def toldF (l : List Int) : Bytes := l.flatMap (fun c => (mapF c).1)
theorem told_snoc {l : List Int} {k : Nat} (h : k < l.length) : toldF (l.take (k + 1)) = toldF (l.take k) ++ (mapF l[k]).1 := by
  unfold toldF
  rw [List.take_succ_eq_append_getElem h, List.flatMap_append]
  simp
theorem to_join_len (c : Int) : (joinF (toF c)).length ≤ 12 := by
  have h1 := joinF_len (toF c)
  have h2 := toF_len c
  omega
theorem map_len (c : Int) : (mapF c).1.length ≤ 12 := by
  have h1 := to_join_len c
  have h2 := (enc_len c).2
  unfold mapF
  split
  · exact h1
  split
  · simp
  split
  · simp only; omega
  · simp
theorem told_len : ∀ l : List Int, (toldF l).length ≤ 12 * l.length
  | [] => by simp [toldF]
  | c :: r => by
    have := told_len r
    have := map_len c
    have e : toldF (c :: r) = (mapF c).1 ++ toldF r := by simp [toldF]
    rw [e, List.length_append, List.length_cons]; omega
/-- the pieces between the dots -/
def dotB : ByteArray := ⟨#[46]⟩
def pieces (t : Bytes) : List Bytes := (Lib.splitB dotB 0 (Lib.countB (bs t) dotB) (bs t)).map ls
def okP (p : Bytes) : Bool := (wrF p).isSome
def outP (p : Bytes) : Bytes := (wrF p).getD []
def joinD (ps : List Bytes) : Bytes := Lib.join ps [46]
def domF (b : Bytes) : Option Bytes :=
  if (signs b).all okM = true then (if (pieces (toldF (signs b))).all okP = true then some (joinD ((pieces (toldF (signs b))).map outP)) else none) else none
theorem dom_1 {b : Bytes} {k : Nat} (h : k < (signs b).length) (hb : (mapF (signs b)[k]).2 = 0) : domF b = none := by
  unfold domF
  rw [if_neg]
  intro ha
  have := List.all_eq_true.mp ha _ (List.getElem_mem h)
  unfold okM at this
  simp [hb] at this
theorem dom_2 {b : Bytes} (h : (signs b).all okM = true) {p : Bytes} (hp : p ∈ pieces (toldF (signs b))) (hb : wrF p = none) : domF b = none := by
  unfold domF
  rw [if_pos h, if_neg]
  intro ha
  have := List.all_eq_true.mp ha _ hp
  unfold okP at this
  simp [hb] at this
theorem dom_3 {b : Bytes} (h : (signs b).all okM = true) (h2 : (pieces (toldF (signs b))).all okP = true) : domF b = some (joinD ((pieces (toldF (signs b))).map outP)) := by
  unfold domF
  rw [if_pos h, if_pos h2]
abbrev Strs (l : List Bytes) : List Value := l.map fun b => Value.string (bs b)
theorem fr_step {b0 : Nat} {g : Option Nat} {w2 wr w3 w4 : World} (h : Fr (fun k => k = b0) w2 wr) (hb : Below wr.heap.size wr w3) (hr : Fr (fun k => k = b0 ∨ g = some k) w3 w4) (hg : ∀ k, g = some k → w2.heap.size ≤ k) : Fr (fun k => k = b0) w2 w4 := by
  have h1 := h.trans (Fr.of_below hb)
  refine ⟨hr.os.trans h1.os, hr.tape.trans h1.tape, hr.output.trans h1.output, Nat.le_trans h1.size hr.size, fun k hk hn => ?_⟩
  refine (hr.block k (Nat.lt_of_lt_of_le hk h1.size) ?_).trans (h1.block k hk hn)
  rintro (h2 | h2)
  · exact hn h2
  · have := hg k h2; omega
/-- a slice of the call's own: where it lies -/
theorem own_where {w : World} {base e n : Nat} {v : Value} {xs : List Value} (h : w.ownsRow base e 1 v n xs) : (v = .slice none 0 0 ∧ xs = []) ∨ ∃ g c, v = .slice (some ⟨g, 0, none⟩) n c ∧ base ≤ g ∧ g < w.heap.size ∧ ∀ j (hj : j < xs.length), w.cell? ⟨g, 0 + j, none⟩ = some xs[j] := by
  have hl := h.1
  rcases h.2 with ⟨rfl, rfl⟩ | ⟨g, cap, cur, rfl, hg, hb, hn, hm, hsz, htk⟩
  · exact .inl ⟨rfl, List.eq_nil_of_length_eq_zero (by omega)⟩
  · refine .inr ⟨g, cap, rfl, hg, ?_, fun j hj => ?_⟩
    · rcases Nat.lt_or_ge g w.heap.size with hlt | hge
      · exact hlt
      · rw [Array.getElem?_eq_none hge] at hb; cases hb
    · have := h.cells (g := g) rfl j xs[j] (by simp)
      rwa [addr_add] at this
theorem out_len (p : Bytes) : (outP p).length ≤ 3004 + p.length := by
  unfold outP wrF
  have h2 := encR_len (signs p)
  split
  · split
    · split
      · split <;> simp
      · simp
    · simp
  · split
    · simp
    · split
      · split
        · rw [Option.getD_some, List.length_append]
          have : pre4.length = 4 := rfl
          omega
        · simp
      · simp
theorem split_le : ∀ (k : Nat) (s : ByteArray), ∀ p ∈ Lib.splitB dotB 0 k s, p.size ≤ s.size
  | 0, s, p, h => by
    rw [Lib.splitB_zero] at h
    simp at h; subst h; exact Nat.le_refl _
  | k + 1, s, p, h => by
    rcases Lib.indexB_cases s dotB with hi | ⟨i, hi, hle⟩
    · rw [Lib.splitB_miss _ _ _ _ hi] at h
      simp at h; subst h; exact Nat.le_refl _
    · rw [Lib.splitB_hit _ _ _ _ i hi] at h
      rcases List.mem_cons.mp h with rfl | h
      · simp [ByteArray.size_extract]; omega
      · have := split_le k _ p h
        simp only [ByteArray.size_extract] at this
        omega
theorem pieces_num (t : Bytes) : (pieces t).length = Lib.countB (bs t) dotB + 1 ∧ Lib.countB (bs t) dotB ≤ t.length := by
  have h1 := Lib.countB_le dotB (by decide) _ (bs t) (Nat.le_refl _)
  have h2 := Lib.splitB_all dotB (by decide) 0 _ (bs t) rfl
  rw [bs_size] at h1
  exact ⟨by unfold pieces; rw [List.length_map, h2], h1⟩
theorem pieces_len {t p : Bytes} (h : p ∈ pieces t) : p.length ≤ t.length := by
  unfold pieces at h
  obtain ⟨q, hq, rfl⟩ := List.mem_map.mp h
  have := split_le _ _ q hq
  rw [bs_size] at this
  rw [ls_length]; exact this
theorem lens_le (M : Nat) : ∀ ps : List Bytes, (∀ p ∈ ps, p.length ≤ M) → Lib.lens ps ≤ ps.length * M
  | [], _ => by simp [Lib.lens]
  | x :: r, h => by
    have ih := lens_le M r (fun p hp => h p (by simp [hp]))
    have hx := h x (by simp)
    have e : Lib.lens (x :: r) = x.length + Lib.lens r := by simp [Lib.lens]
    rw [e, List.length_cons, Nat.add_mul, Nat.one_mul]; omega
theorem join_len (M : Nat) (ps : List Bytes) (h : ∀ p ∈ ps, p.length ≤ M) : (joinD ps).length ≤ ps.length * (M + 1) := by
  unfold joinD
  cases ps with
  | nil => simp [Lib.join_nil]
  | cons x r =>
    have hx := h x (by simp)
    have hl := lens_le M r (fun p hp => h p (by simp [hp]))
    have e1 : ([46] : List UInt8).length = 1 := rfl
    have e2 : (x :: r).length = r.length + 1 := rfl
    rw [Lib.join_cons, List.length_append, Lib.joinTail_length, e1, e2, Nat.add_mul, Nat.mul_add]
    omega
theorem split_dot (t : Bytes) (w : World) (hE : Env w) (ht : t.length ≤ 1000000) :
    Calls Tryz.prog 99 #[.string (bs t), .string ⟨#[46]⟩] w fun e w' => e = .returned (.slice (some ⟨w.heap.size, 0, none⟩) (pieces t).length (pieces t).length) ∧ w' = w.alloc (.cells (Strs (pieces t)).toArray 9) := by
  obtain ⟨_, m, hm⟩ := hE
  have h := Any.strings_Split Tryz.laysSplit (by kernel_rfl) (bs t) dotB m w (by rw [bs_size]; omega) hm (by decide)
  have e : Strs (pieces t) = (Lib.splitB dotB 0 (Lib.countB (bs t) dotB) (bs t)).map Value.string := by
    show (List.map ls _).map (fun b => Value.string (bs b)) = _
    rw [List.map_map]
    refine List.map_congr_left fun x _ => ?_
    simp
  rw [(pieces_num t).1, e]
  exact h
theorem bldj_extra : Builder.Extra Tryz.prog Tryz.laysJoin_ren := {
  sizeBuilder := by kernel_rfl,
  liesBuilder := by kernel_rfl,
  t5 := Tryz.underlying5,
  a5 := Tryz.isAgg5,
  z5 := Tryz.sizeOf5,
  v5 := Tryz.zeroValue5,
  infoByte := by kernel_rfl,
  cellsByte := by kernel_rfl,
  sizeByte := by kernel_rfl,
  neB5 := by decide }
theorem join_dots (g n c : Nat) (ps : List Bytes) (w : World) (h : ∀ j (hj : j < ps.length), w.cell? ⟨g, 0 + j, none⟩ = some (.string (bs ps[j]))) (hg : g < w.heap.size) (hn : n = ps.length) (hc : n ≤ c) (hl : n ≤ 1000000) (hM : ∀ p ∈ ps, p.length ≤ 1000000) :
    Calls Tryz.prog 101 #[.slice (some ⟨g, 0, none⟩) n c, .string ⟨#[46]⟩] w fun e w' => e = .returned (S (joinD ps)) ∧ Below w.heap.size w w' := by
  subst hn
  have hmap : (ps.map bs).map (·.data.toList) = ps := by rw [List.map_map]; conv => rhs; rw [← List.map_id ps]
                                                         refine List.map_congr_left fun x _ => ?_
                                                         exact ls_bs x
  have hj := join_len 1000000 ps hM
  have hj2 : ps.length * 1000001 ≤ 1000000 * 1000001 := Nat.mul_le_mul_right _ hl
  have h1 := Any.strings_Join Tryz.laysJoin bldj_extra g 0 c (ps.map bs) dotB w (fun j x hx => by
      rw [List.getElem?_map] at hx
      cases hp : ps[j]? with
      | none => rw [hp] at hx; cases hx
      | some p =>
        rw [hp] at hx
        obtain ⟨hjl, rfl⟩ := List.getElem?_eq_some_iff.1 hp
        cases hx
        exact h j hjl) hg (by rw [List.length_map]; omega) (by rw [List.length_map]; exact hc)
    (by rw [hmap]; show (joinD ps).length ≤ _; omega)
  rw [hmap, List.length_map] at h1
  exact h1
end Go.Proofs.YtjgenpooedkfmaaGreatDoor

/- Plain laws of layer 8: the signs in whose place one stands stand as they are themselves. -/
namespace Go.Proofs.YtjgenpooedkfmaaGreatDoor
open Go.RowKit
set_option maxRecDepth 10000

theorem toF_nil {x : Int} (h : ¬ ((0x41 ≤ x ∧ x ≤ 0x5a) ∨ (0xc0 ≤ x ∧ x ≤ 0xd6) ∨ (0xd8 ≤ x ∧ x ≤ 0xde) ∨ (0x391 ≤ x ∧ x ≤ 0x3a1) ∨ (0x3a3 ≤ x ∧ x ≤ 0x3a9) ∨ (0x410 ≤ x ∧ x ≤ 0x42f) ∨ ((0x100 ≤ x ∧ x ≤ 0x12e) ∧ x % 2 = 0) ∨ x = 0x130 ∨ (0x400 ≤ x ∧ x ≤ 0x40f) ∨ x = 0x2024 ∨ x = 0x3002 ∨ x = 0xff61 ∨ x = 0x2100 ∨ x = 0x2105 ∨ (0x2460 ≤ x ∧ x ≤ 0x2468) ∨ (0xff01 ≤ x ∧ x ≤ 0xff5e) ∨ (0x1d7ce ≤ x ∧ x ≤ 0x1d7ff))) : toF x = [] := by
  unfold toF
  iterate 11 rw [if_neg (by omega)]
theorem mp_valid {x : Int} (h : ¬ ((0x41 ≤ x ∧ x ≤ 0x5a) ∨ (0xc0 ≤ x ∧ x ≤ 0xd6) ∨ (0xd8 ≤ x ∧ x ≤ 0xde) ∨ (0x391 ≤ x ∧ x ≤ 0x3a1) ∨ (0x3a3 ≤ x ∧ x ≤ 0x3a9) ∨ (0x410 ≤ x ∧ x ≤ 0x42f) ∨ ((0x100 ≤ x ∧ x ≤ 0x12e) ∧ x % 2 = 0) ∨ x = 0x130 ∨ (0x400 ≤ x ∧ x ≤ 0x40f) ∨ x = 0x2024 ∨ x = 0x3002 ∨ x = 0xff61 ∨ x = 0x2100 ∨ x = 0x2105 ∨ (0x2460 ≤ x ∧ x ≤ 0x2468) ∨ (0xff01 ≤ x ∧ x ≤ 0xff5e) ∨ (0x1d7ce ≤ x ∧ x ≤ 0x1d7ff)))
    (hv : vlP x) : mapF x = (enc x, 1) := by
  have hg : gnF x = false := by
    unfold vlP at hv
    unfold gnF
    exact decide_eq_false (by omega)
  exact mapF_valid (toF_nil h) hg ((vl_iff x).mpr hv)
/-- the signs in whose place one stands -/
theorem to_targets (c : Int) : ∀ x ∈ toF c, mapF x = (enc x, 1) ∧ x ≠ c ∧ Utf8.valid x = true := by
  intro x hx
  rcases to_cases c with ⟨h, e⟩ | ⟨h, h2, e⟩ | ⟨h, h2, e⟩ | ⟨h, e⟩ | ⟨h, e⟩ | ⟨h, e⟩ | ⟨h, e⟩ | ⟨h, e⟩ | ⟨h, e⟩ | ⟨h, e⟩ | ⟨h, e⟩ | ⟨h, e⟩ | ⟨h, e⟩
  all_goals rw [e] at hx
  all_goals clear e
  · simp only [List.mem_singleton] at hx
    subst hx
    exact ⟨mp_valid (by omega) (by unfold vlP; omega), by omega, (valid_iff _).mpr (by omega)⟩
  · simp only [List.mem_singleton] at hx
    subst hx
    exact ⟨mp_valid (by omega) (by unfold vlP; omega), by omega, (valid_iff _).mpr (by omega)⟩
  · simp at hx
  · simp only [List.mem_cons, List.not_mem_nil, or_false] at hx
    rcases hx with rfl | rfl
    all_goals exact ⟨mp_valid (by omega) (by unfold vlP; omega), by omega, (valid_iff _).mpr (by omega)⟩
  · simp only [List.mem_singleton] at hx
    subst hx
    exact ⟨mp_valid (by omega) (by unfold vlP; omega), by omega, (valid_iff _).mpr (by omega)⟩
  · simp only [List.mem_singleton] at hx
    subst hx
    exact ⟨mp_valid (by omega) (by unfold vlP; omega), by omega, (valid_iff _).mpr (by omega)⟩
  · simp only [List.mem_cons, List.not_mem_nil, or_false] at hx
    rcases hx with rfl | rfl | rfl
    all_goals exact ⟨mp_valid (by omega) (by unfold vlP; omega), by omega, (valid_iff _).mpr (by omega)⟩
  · simp only [List.mem_cons, List.not_mem_nil, or_false] at hx
    rcases hx with rfl | rfl | rfl
    all_goals exact ⟨mp_valid (by omega) (by unfold vlP; omega), by omega, (valid_iff _).mpr (by omega)⟩
  · simp only [List.mem_singleton] at hx
    subst hx
    exact ⟨mp_valid (by omega) (by unfold vlP; omega), by omega, (valid_iff _).mpr (by omega)⟩
  · simp only [List.mem_singleton] at hx
    subst hx
    exact ⟨mp_valid (by omega) (by unfold vlP; omega), by omega, (valid_iff _).mpr (by omega)⟩
  · simp only [List.mem_singleton] at hx
    subst hx
    exact ⟨mp_valid (by omega) (by unfold vlP; omega), by omega, (valid_iff _).mpr (by omega)⟩
  · simp only [List.mem_singleton] at hx
    subst hx
    exact ⟨mp_valid (by omega) (by unfold vlP; omega), by omega, (valid_iff _).mpr (by omega)⟩
  · simp at hx
theorem signs_one {c : Int} (h : Utf8.valid c = true) : signs (enc c) = [c] := by
  have := signs_enc c []
  rw [List.append_nil, signs_nil, fix_of h] at this
  exact this
theorem vl_valid {c : Int} (h : vlF c = true) : Utf8.valid c = true := by
  have := (vl_iff c).mp h
  unfold vlP at this
  exact (valid_iff c).mpr (by omega)
/-- how a sign stands, and what is put down -/
theorem map_kinds (c : Int) : ((mapF c) = (enc c, 1) ∧ toF c = [] ∧ signs (enc c) = [c]) ∨ (mapF c = (joinF (toF c), 2) ∧ 1 ≤ (toF c).length ∧ (toF c).length ≤ 3) ∨ (mapF c = ([], 3)) ∨ (mapF c = ([], 0)) := by
  rcases map_cases c with ⟨b, h, _, rfl, e⟩ | ⟨h, h2, e⟩ | ⟨h, h2, h3, e⟩ | ⟨h, h2, h3, e⟩
  · refine .inr (.inl ⟨e, ?_, toF_len c⟩)
    cases ht : toF c with
    | nil => exact absurd ht h
    | cons x r => simp
  · exact .inr (.inr (.inl e))
  · exact .inl ⟨e, h, signs_one (vl_valid h3)⟩
  · exact .inr (.inr (.inr e))
end Go.Proofs.YtjgenpooedkfmaaGreatDoor

/- Plain laws of layer 8: the pieces between the dots. -/
namespace Go.Proofs.YtjgenpooedkfmaaGreatDoor
open Go.RowKit
set_option maxRecDepth 10000

/-- a text, cut at its dots -/
def cutD : Bytes → List Bytes
  | [] => [[]]
  | x :: r => if x = 46 then [] :: cutD r else match cutD r with | [] => [[x]] | p :: ps => (x :: p) :: ps
theorem cutD_nil : cutD [] = [[]] := rfl
theorem cutD_dot (r : Bytes) : cutD (46 :: r) = [] :: cutD r := by rw [cutD, if_pos rfl]
theorem cutD_ne : ∀ t, ∃ p ps, cutD t = p :: ps
  | [] => ⟨_, _, rfl⟩
  | x :: r => by
    unfold cutD
    split
    · exact ⟨_, _, rfl⟩
    · obtain ⟨p, ps, h⟩ := cutD_ne r
      rw [h]; exact ⟨_, _, rfl⟩
theorem cutD_other {x : UInt8} {r p : Bytes} {ps : List Bytes} (h : x ≠ 46) (hr : cutD r = p :: ps) : cutD (x :: r) = (x :: p) :: ps := by
  rw [cutD, if_neg h, hr]
theorem ix_cons (x : UInt8) (r : Bytes) : Lib.index (x :: r) [46] = if x = 46 then 0 else if Lib.index r [46] = -1 then -1 else Lib.index r [46] + 1 := by
  rw [Lib.index_one, Lib.index_one, Lib.indexByte]
  by_cases h : x = 46
  · subst h; simp
  · rw [if_neg h, if_neg (by simpa using h)]
    simp only [beq_iff_eq]
theorem count_cons' (x : UInt8) (r : Bytes) : Lib.count (x :: r) [46] = if x = 46 then Lib.count r [46] + 1 else Lib.count r [46] := by
  rw [Lib.count_one, Lib.count_one, List.count_cons]
  by_cases h : x = 46
  · subst h; simp
  · simp [h]
theorem ix_none : ∀ r : Bytes, Lib.count r [46] = 0 → Lib.index r [46] = -1 ∧ cutD r = [r]
  | [], _ => ⟨by rw [Lib.index_one]; rfl, rfl⟩
  | x :: r, h => by
    rw [count_cons'] at h
    split at h
    · omega
    · next hx =>
      obtain ⟨h1, h2⟩ := ix_none r h
      exact ⟨by rw [ix_cons, if_neg hx, if_pos h1], cutD_other hx h2⟩
theorem ix_some : ∀ r : Bytes, Lib.count r [46] ≠ 0 → ∃ i : Nat, Lib.index r [46] = i
  | [], h => by rw [Lib.count_one] at h; simp at h
  | x :: r, h => by
    rw [count_cons'] at h
    rw [ix_cons]
    by_cases hx : x = 46
    · exact ⟨0, by rw [if_pos hx]; try rfl⟩
    · rw [if_neg hx] at h
      obtain ⟨i, hi⟩ := ix_some r h
      exact ⟨i + 1, by rw [if_neg hx, if_neg (by omega), hi]; rfl⟩
theorem splitK_hit {s : Bytes} {k i : Nat} (h : Lib.index s [46] = i) : Lib.splitK [46] 0 (k + 1) s = s.take i :: Lib.splitK [46] 0 k (s.drop (i + 1)) := by
  rw [Lib.splitK, if_neg (by rw [h]; simp), h]
  rfl
theorem splitK_cut : ∀ t : Bytes, Lib.splitK [46] 0 (Lib.count t [46]) t = cutD t
  | [] => by
    rw [Lib.count_one]
    rfl
  | x :: r => by
    have ih := splitK_cut r
    rw [count_cons']
    by_cases hx : x = 46
    · subst hx
      rw [if_pos rfl, splitK_hit (i := 0) (by rw [ix_cons, if_pos rfl]; rfl), cutD_dot]
      rw [show (46 :: r).drop (0 + 1) = r from rfl, ih]
      rfl
    · rw [if_neg hx]
      by_cases h0 : Lib.count r [46] = 0
      · rw [h0]
        exact (cutD_other hx (ix_none r h0).2).symm
      · obtain ⟨i, hi⟩ := ix_some r h0
        obtain ⟨k, hk⟩ : ∃ k, Lib.count r [46] = k + 1 := ⟨Lib.count r [46] - 1, by omega⟩
        rw [hk, splitK_hit hi] at ih
        rw [hk, splitK_hit (i := i + 1) (by rw [ix_cons, if_neg hx, if_neg (by omega), hi]; rfl)]
        rw [cutD_other hx ih.symm]
        rfl
theorem pieces_cut (t : Bytes) : pieces t = cutD t := by
  unfold pieces
  have h := Lib.splitB_data dotB 0 (Lib.countB (bs t) dotB) (bs t)
  have e1 : (bs t).data.toList = t := ls_bs t
  have e2 : dotB.data.toList = [46] := rfl
  have e3 : Lib.countB (bs t) dotB = Lib.count t [46] := by
    show Lib.count (bs t).data.toList dotB.data.toList = _
    rw [e1, e2]
  rw [e1, e2, e3, splitK_cut] at h
  rw [e3]
  exact h
theorem cutD_app : ∀ a b : Bytes, cutD (a ++ 46 :: b) = cutD a ++ cutD b
  | [], b => by rw [List.nil_append, cutD_dot, cutD_nil]; rfl
  | x :: r, b => by
    have ih := cutD_app r b
    obtain ⟨p, ps, h⟩ := cutD_ne r
    by_cases hx : x = 46
    · subst hx
      rw [List.cons_append, cutD_dot, cutD_dot, ih]; rfl
    · rw [h] at ih
      rw [List.cons_append, cutD_other hx ih, cutD_other hx h]; rfl
theorem joinD_cons (p : Bytes) (q : Bytes) (ps : List Bytes) : joinD (p :: q :: ps) = p ++ 46 :: joinD (q :: ps) := by
  unfold joinD
  rw [Lib.join_cons, Lib.join_cons]
  unfold Lib.joinTail
  simp
theorem join_cut : ∀ t : Bytes, joinD (cutD t) = t
  | [] => by rw [cutD_nil]; unfold joinD; rw [Lib.join_one]
  | x :: r => by
    have ih := join_cut r
    obtain ⟨p, ps, h⟩ := cutD_ne r
    by_cases hx : x = 46
    · subst hx
      rw [cutD_dot]
      rw [h] at ih ⊢
      rw [joinD_cons, ih]; rfl
    · rw [cutD_other hx h]
      rw [h] at ih
      cases ps with
      | nil =>
        unfold joinD at *
        rw [Lib.join_one] at *
        rw [ih]
      | cons q qs =>
        rw [joinD_cons] at *
        rw [← ih]; rfl
theorem cut_join : ∀ (p : Bytes) (ps : List Bytes), (∀ q ∈ p :: ps, 46 ∉ q) → cutD (joinD (p :: ps)) = p :: ps
  | p, [], h => by
    unfold joinD
    rw [Lib.join_one]
    have hp := h p (by simp)
    clear h
    induction p with
    | nil => rfl
    | cons x r ih =>
      have hx : x ≠ 46 := fun h => hp (by simp [h])
      exact cutD_other hx (ih (fun h => hp (by simp [h])))
  | p, q :: qs, h => by
    have ih := cut_join q qs (fun z hz => h z (by simp only [List.mem_cons] at hz ⊢; exact .inr hz))
    have hp : cutD p = [p] := by
      have hp := h p (by simp)
      clear h ih
      induction p with
      | nil => rfl
      | cons x r ih =>
        have hx : x ≠ 46 := fun h => hp (by simp [h])
        exact cutD_other hx (ih (fun h => hp (by simp [h])))
    rw [joinD_cons, cutD_app, hp, ih]
    rfl
/-- signs, cut at their dots -/
def cutS : List Int → List (List Int)
  | [] => [[]]
  | c :: r => if c = 46 then [] :: cutS r else match cutS r with | [] => [[c]] | p :: ps => (c :: p) :: ps
theorem cutS_ne : ∀ t, ∃ p ps, cutS t = p :: ps
  | [] => ⟨_, _, rfl⟩
  | x :: r => by
    unfold cutS
    split
    · exact ⟨_, _, rfl⟩
    · obtain ⟨p, ps, h⟩ := cutS_ne r
      rw [h]; exact ⟨_, _, rfl⟩
theorem cutS_other {x : Int} {r p : List Int} {ps : List (List Int)} (h : x ≠ 46) (hr : cutS r = p :: ps) : cutS (x :: r) = (x :: p) :: ps := by
  rw [cutS, if_neg h, hr]
theorem cutD_pre : ∀ (e t p : Bytes) (ps : List Bytes), 46 ∉ e → cutD t = p :: ps → cutD (e ++ t) = (e ++ p) :: ps
  | [], t, p, ps, _, h => h
  | x :: e, t, p, ps, he, h => by
    have ih := cutD_pre e t p ps (fun h2 => he (by simp [h2])) h
    exact cutD_other (fun h2 => he (by simp [h2])) ih
theorem enc_nodot {c : Int} (hv : Utf8.valid c = true) (h : c ≠ 46) : (46 : UInt8) ∉ enc c := by
  have hr := (valid_iff c).mp hv
  intro hm
  have key : ∀ n : Int, 0 ≤ n → n < 256 → n ≠ 46 → (46 : UInt8) ≠ UInt8.ofNat n.toNat := by
    intro n h0 h1 h2 e
    have := congrArg b2 e
    rw [b2_of (by omega)] at this
    have e46 : b2 46 = 46 := by decide
    omega
  by_cases h1 : c < 0x80
  · rw [enc_1 (by omega) h1] at hm
    simp only [List.mem_singleton] at hm
    exact key c (by omega) (by omega) h hm
  · by_cases h2 : c < 0x800
    · rw [enc_2 (by omega) h2] at hm
      simp only [List.mem_cons, List.not_mem_nil, or_false] at hm
      rcases hm with hm | hm
      all_goals exact key _ (by omega) (by omega) (by omega) hm
    · by_cases h3 : c < 0x10000
      · rw [enc_3 (by omega) h3 (by omega)] at hm
        simp only [List.mem_cons, List.not_mem_nil, or_false] at hm
        rcases hm with hm | hm | hm
        all_goals exact key _ (by omega) (by omega) (by omega) hm
      · rw [enc_4 (by omega) (by omega)] at hm
        simp only [List.mem_cons, List.not_mem_nil, or_false] at hm
        rcases hm with hm | hm | hm | hm
        all_goals exact key _ (by omega) (by omega) (by omega) hm
theorem cut_signs : ∀ l : List Int, (∀ c ∈ l, Utf8.valid c = true) → cutD (joinF l) = (cutS l).map joinF
  | [], _ => rfl
  | c :: r, h => by
    have ih := cut_signs r (fun x hx => h x (by simp [hx]))
    obtain ⟨p, ps, hp⟩ := cutS_ne r
    rw [joinF_cons]
    by_cases hc : c = 46
    · subst hc
      have e : enc 46 = [46] := by decide +kernel
      rw [e, List.singleton_append, cutD_dot, ih, cutS, if_pos rfl]
      rfl
    · rw [hp] at ih
      rw [cutD_pre _ _ _ _ (enc_nodot (h c (by simp)) hc) ih, cutS_other hc hp]
      rfl
theorem cutS_mem : ∀ (l : List Int), ∀ p ∈ cutS l, ∀ c ∈ p, c ∈ l ∧ c ≠ 46
  | [], p, h, c, hc => by
    have : p = [] := by simpa [cutS] using h
    subst this; simp at hc
  | x :: r, p, h, c, hc => by
    have ih := cutS_mem r
    obtain ⟨q, qs, hq⟩ := cutS_ne r
    by_cases hx : x = 46
    · subst hx
      rw [cutS, if_pos rfl] at h
      rcases List.mem_cons.mp h with rfl | h
      · simp at hc
      · have := ih p h c hc
        exact ⟨by simp [this.1], this.2⟩
    · rw [cutS_other hx hq] at h
      rcases List.mem_cons.mp h with rfl | h
      · rcases List.mem_cons.mp hc with rfl | hc
        · exact ⟨by simp, hx⟩
        · have := ih q (by rw [hq]; simp) c hc
          exact ⟨by simp [this.1], this.2⟩
      · have := ih p (by rw [hq]; simp [h]) c hc
        exact ⟨by simp [this.1], this.2⟩
end Go.Proofs.YtjgenpooedkfmaaGreatDoor

/- Plain laws of layer 8: names. -/
namespace Go.Proofs.YtjgenpooedkfmaaGreatDoor
open Go.RowKit
set_option maxRecDepth 10000

/-- the signs that are put down for one -/
def msF (c : Int) : List Int := if (mapF c).2 = 2 then toF c else if (mapF c).2 = 1 then [c] else []
theorem map_ms (c : Int) : (mapF c).1 = joinF (msF c) := by
  unfold msF
  rcases map_kinds c with ⟨e, h0, h1⟩ | ⟨e, h1, h2⟩ | e | e
  all_goals rw [e]
  · simp [join_one]
  · simp
  · simp [joinF]
  · simp [joinF]
theorem ms_ok (c : Int) : ∀ x ∈ msF c, mapF x = (enc x, 1) ∧ Utf8.valid x = true := by
  intro x hx
  unfold msF at hx
  rcases map_kinds c with ⟨e, h0, h1⟩ | ⟨e, h1, h2⟩ | e | e
  all_goals rw [e] at hx
  · simp at hx
    subst hx
    refine ⟨e, ?_⟩
    exact signs_valid (enc x) x (by rw [h1]; simp)
  · simp at hx
    have := to_targets c x hx
    exact ⟨this.1, this.2.2⟩
  · simp at hx
  · simp at hx
def msL (l : List Int) : List Int := l.flatMap msF
theorem msL_ok (l : List Int) : ∀ x ∈ msL l, mapF x = (enc x, 1) ∧ Utf8.valid x = true := by
  intro x hx
  obtain ⟨c, _, hc⟩ := List.mem_flatMap.mp hx
  exact ms_ok c x hc
theorem told_join : ∀ l : List Int, toldF l = joinF (msL l)
  | [] => rfl
  | c :: r => by
    have ih := told_join r
    have e : toldF (c :: r) = (mapF c).1 ++ toldF r := by simp [toldF]
    have e2 : msL (c :: r) = msF c ++ msL r := by simp [msL]
    rw [e, e2, joinF_append, ih, map_ms]
/-- signs that stand as they are -/
theorem told_same : ∀ {m : List Int}, (∀ x ∈ m, mapF x = (enc x, 1)) → toldF m = joinF m ∧ m.all okM = true
  | [], _ => ⟨rfl, rfl⟩
  | c :: r, h => by
    obtain ⟨h1, h2⟩ := told_same (m := r) (fun x hx => h x (by simp [hx]))
    have hc := h c (by simp)
    have e : toldF (c :: r) = (mapF c).1 ++ toldF r := by simp [toldF]
    rw [e, joinF_cons, h1, hc]
    refine ⟨rfl, ?_⟩
    simp only [List.all_cons, h2, Bool.and_true]
    unfold okM
    rw [hc]; rfl
/-- what comes of a text's signs -/
def domS (l : List Int) : Option Bytes := if l.all okM = true then (if (cutD (toldF l)).all okP = true then some (joinD ((cutD (toldF l)).map outP)) else none) else none
theorem dom_signs (b : Bytes) : domF b = domS (signs b) := by unfold domF domS; rw [pieces_cut]
end Go.Proofs.YtjgenpooedkfmaaGreatDoor

/- Plain laws of layer 8: a name comes of itself; a label's letters. -/
namespace Go.Proofs.YtjgenpooedkfmaaGreatDoor
open Go.RowKit
set_option maxRecDepth 10000

theorem okS_kind {c : Int} (h : okS c = true) : mapF c = (enc c, 1) ∧ Utf8.valid c = true ∧ c ≠ 46 := by
  have h2 := of_decide_eq_true h
  rcases map_kinds c with ⟨e, h0, h1⟩ | ⟨e, _⟩ | e | e
  · exact ⟨e, signs_valid (enc c) c (by rw [h1]; simp), h2.2⟩
  · rw [e] at h2; simp at h2
  · rw [e] at h2; simp at h2
  · rw [e] at h2; simp at h2
theorem lab_all {l : List Int} (h : labF l = true) : (∀ c ∈ l, okS c = true) ∧ ∃ c ∈ l, 127 < c := by
  unfold labF at h
  rw [Bool.and_eq_true, Bool.and_eq_true] at h
  refine ⟨List.all_eq_true.mp h.1.2, ?_⟩
  obtain ⟨c, hc, hf⟩ := List.any_eq_true.mp h.2
  exact ⟨c, hc, of_decide_eq_true hf⟩
theorem valid_sg {c : Int} (h : Utf8.valid c = true) : sg c = true := by
  have := (valid_iff c).mp h
  exact sg_iff.mpr (by omega)
theorem not_large {c : Int} (h : mapF c = (enc c, 1)) : ¬ (65 ≤ c ∧ c ≤ 90) := by
  intro hc
  have : toF c = [c + 0x20] := by unfold toF; rw [if_pos (by omega)]
  have e := mapF_to (c := c) (by rw [this]; simp)
  rw [h] at e
  have := congrArg Prod.snd e
  simp at this
theorem low_signs {l : List Int} (hv : ∀ c ∈ l, Utf8.valid c = true) (h : lowS (joinF l) = true) : ∀ c ∈ l, c < 0x80 := by
  induction l with
  | nil => simp
  | cons x r ih =>
    rw [joinF_cons, low_app, Bool.and_eq_true] at h
    intro c hc
    rcases List.mem_cons.mp hc with rfl | hc
    · by_cases h1 : c < 0x80
      · exact h1
      · have := (enc_len2 (hv c (by simp)) h1).2
        rw [this] at h
        exact absurd h.1 (by simp)
    · exact ih (fun x hx => hv x (by simp [hx])) h.2 c hc
theorem signs_join' {l : List Int} (hv : ∀ c ∈ l, Utf8.valid c = true) : signs (joinF l) = l := by
  have := signs_join l []
  rw [List.append_nil, signs_nil, List.append_nil, map_fix hv] at this
  exact this
theorem enc_ok {l : List Int} (h : labF l = true) (hl : l.length ≤ 255) : encR l = (encF l, true) ∧ (∀ c ∈ l, sg c = true) ∧ 1 ≤ (encF l).length := by
  obtain ⟨h1, c, hc, hf⟩ := lab_all h
  have hs : ∀ c ∈ l, sg c = true := fun x hx => valid_sg (okS_kind (h1 x hx)).2.1
  refine ⟨?_, hs, ?_⟩
  · unfold encR
    rw [if_neg]
    rintro (h | h)
    · omega
    · exact h (List.all_eq_true.mpr hs)
  · obtain ⟨W, e, _, _, h4⟩ := encF_parts hs hl
    rw [e, List.length_append]
    by_cases hw : W.length = 0
    · exfalso
      have hb := h4 hw
      have hb2 : (bas l).length = (l.filter (fun c => decide (c < 128))).length := by unfold bas; rw [List.length_map]
      rw [hb2] at hb
      have := List.length_filter_eq_length_iff.mp hb c hc
      have := of_decide_eq_true this
      omega
    · omega
/-- a label as it stands in a name -/
def Fine (p : Bytes) : Prop := (∀ y ∈ p, b2 y < 0x80 ∧ ¬ (65 ≤ b2 y ∧ b2 y ≤ 90) ∧ y ≠ 46) ∧ wrF p = some p
theorem pre_has (t : Bytes) : Lib.hasPrefix (pre4 ++ t) pre4 = true := by
  unfold Lib.hasPrefix
  exact List.isPrefixOf_iff_prefix.mpr ⟨t, rfl⟩
theorem low_of {p : Bytes} (h : ∀ y ∈ p, b2 y < 0x80) : lowS p = true := List.all_eq_true.mpr fun y hy => decide_eq_true (h y hy)
theorem out_fine {q : List Int} (hq : ∀ c ∈ q, mapF c = (enc c, 1) ∧ Utf8.valid c = true ∧ c ≠ 46) (hok : okP (joinF q) = true) : Fine (outP (joinF q)) := by
  have hv : ∀ c ∈ q, Utf8.valid c = true := fun c hc => (hq c hc).2.1
  have hsl := signs_join' hv
  obtain ⟨y, hy⟩ : ∃ y, wrF (joinF q) = some y := by
    unfold okP at hok
    exact Option.isSome_iff_exists.mp hok
  have ho : outP (joinF q) = y := by unfold outP; rw [hy]; rfl
  rw [ho]
  cases hl : lowS (joinF q)
  · -- letters of puny
    have hp : Lib.hasPrefix (joinF q) pre4 = false := by
      cases hp : Lib.hasPrefix (joinF q) pre4
      · rfl
      · rw [wr_1 hp hl] at hy; cases hy
    have hla : labF (signs (joinF q)) = true := by
      cases hla : labF (signs (joinF q))
      · rw [wr_5 hp hl hla] at hy; cases hy
      · rfl
    rw [wr_6 hp hl hla, hsl] at hy
    rw [hsl] at hla
    have hlen : q.length ≤ 255 ∧ encR q = (encF q, true) := by
      unfold encR at hy ⊢
      split at hy
      · simp at hy
      · next h =>
        rw [if_neg h]
        exact ⟨by omega, rfl⟩
    rw [hlen.2] at hy
    simp only [if_true] at hy
    have hyy : y = pre4 ++ encF q := (Option.some.inj hy).symm
    obtain ⟨_, hs, _⟩ := enc_ok hla hlen.1
    obtain ⟨W, e, hW, _⟩ := encF_parts hs hlen.1
    have hbytes : ∀ z ∈ y, b2 z < 0x80 ∧ ¬ (65 ≤ b2 z ∧ b2 z ≤ 90) ∧ z ≠ 46 := by
      intro z hz
      rw [hyy, e] at hz
      have h46 : b2 46 = 46 := by decide
      rcases List.mem_append.mp hz with hz | hz
      · have : z = 120 ∨ z = 110 ∨ z = 45 := by
          have : z ∈ ([120, 110, 45, 45] : Bytes) := hz
          simp only [List.mem_cons, List.not_mem_nil, or_false] at this
          rcases this with h | h | h | h <;> simp [h]
        rcases this with rfl | rfl | rfl <;> decide
      · rcases List.mem_append.mp hz with hz | hz
        · rcases List.mem_append.mp hz with hz | hz
          · unfold bas at hz
            obtain ⟨c, hc, rfl⟩ := List.mem_map.mp hz
            obtain ⟨hc1, hc2⟩ := List.mem_filter.mp hc
            have hc3 := of_decide_eq_true hc2
            have hk := hq c hc1
            have hr := (valid_iff c).mp hk.2.1
            have hn := not_large hk.1
            have eb : b2 (UInt8.ofNat c.toNat) = c := b2_of (by omega)
            refine ⟨by omega, by omega, fun h => ?_⟩
            rw [h, h46] at eb
            exact hk.2.2 eb.symm
          · unfold hyp at hz
            split at hz
            · simp at hz
            · simp only [List.mem_singleton] at hz
              subst hz
              decide
        · have := hW z hz
          unfold isDg at this
          refine ⟨by omega, by omega, fun h => ?_⟩
          rw [h, h46] at this
          omega
    refine ⟨hbytes, ?_⟩
    have hlow : lowS y = true := low_of fun z hz => (hbytes z hz).1
    rw [hyy] at hlow ⊢
    have hd : (pre4 ++ encF q).drop 4 = encF q := rfl
    rw [wr_3 (pre_has _) hlow (by rw [hd]; exact dec_of_enc hs hlen.1), hla]
    rfl
  · -- it stands as it is
    have hyp : y = joinF q := by
      cases hp : Lib.hasPrefix (joinF q) pre4
      · rw [wr_4 hp hl] at hy; exact (Option.some.inj hy).symm
      · cases hd : decF ((joinF q).drop 4) with
        | none => rw [wr_2 hp hl hd] at hy; cases hy
        | some l =>
          rw [wr_3 hp hl hd] at hy
          split at hy
          · exact (Option.some.inj hy).symm
          · cases hy
    subst hyp
    refine ⟨?_, hy⟩
    have hlt := low_signs hv hl
    intro z hz
    obtain ⟨c, hc, hz⟩ := List.mem_flatMap.mp hz
    have hk := hq c hc
    have hr := (valid_iff c).mp hk.2.1
    have hn := not_large hk.1
    rw [enc_1 (by omega) (hlt c hc)] at hz
    simp only [List.mem_singleton] at hz
    have eb : b2 z = c := by rw [hz]; exact b2_of (by have := hlt c hc; omega)
    have h46 : b2 46 = 46 := by decide
    refine ⟨by have := hlt c hc; omega, by omega, fun h => ?_⟩
    rw [h, h46] at eb
    exact hk.2.2 eb.symm
theorem all_low_join {t : Bytes} (h : ∀ y ∈ t, b2 y < 0x80) : t = joinF (t.map b2) := by
  induction t with
  | nil => rfl
  | cons x r ih =>
    rw [List.map_cons, joinF_cons, enc_asc (h x (by simp)), ← ih (fun y hy => h y (by simp [hy]))]
    rfl
theorem map_low {c : Int} (h0 : 0 ≤ c) (h1 : c < 0x80) (h2 : ¬ (65 ≤ c ∧ c ≤ 90)) : mapF c = (enc c, 1) := mp_valid (by omega) (by unfold vlP; omega)
/-- IdnaOnce: a name that came of a text comes of itself -/
theorem dom_once {b t : Bytes} (h : domF b = some t) : (∀ y ∈ t, b2 y < 0x80 ∧ ¬ (65 ≤ b2 y ∧ b2 y ≤ 90)) ∧ domF t = some t := by
  rw [dom_signs] at h
  unfold domS at h
  split at h
  · split at h
    · next hok =>
      have ht := (Option.some.inj h).symm
      rw [told_join] at ht hok
      have hms := msL_ok (signs b)
      generalize msL (signs b) = m at *
      have hv : ∀ c ∈ m, Utf8.valid c = true := fun c hc => (hms c hc).2
      rw [cut_signs m hv] at ht hok
      have hfine : ∀ o ∈ ((cutS m).map joinF).map outP, Fine o := by
        intro o ho
        obtain ⟨p, hp, rfl⟩ := List.mem_map.mp ho
        obtain ⟨q, hq, rfl⟩ := List.mem_map.mp hp
        refine out_fine (fun c hc => ?_) (List.all_eq_true.mp hok _ hp)
        have hm := cutS_mem m q hq c hc
        exact ⟨(hms c hm.1).1, (hms c hm.1).2, hm.2⟩
      obtain ⟨o, os, hos⟩ : ∃ o os, ((cutS m).map joinF).map outP = o :: os := by
        obtain ⟨p, ps, hp⟩ := cutS_ne m
        rw [hp]; exact ⟨_, _, rfl⟩
      rw [hos] at ht hfine
      have hcut := cut_join o os (fun q hq h2 => ((hfine q hq).1 46 h2).2.2 rfl)
      rw [← ht] at hcut
      have hbytes : ∀ y ∈ t, b2 y < 0x80 ∧ ¬ (65 ≤ b2 y ∧ b2 y ≤ 90) := by
        have key : ∀ (p : Bytes) (ps : List Bytes), (∀ q ∈ p :: ps, Fine q) → ∀ y ∈ joinD (p :: ps), b2 y < 0x80 ∧ ¬ (65 ≤ b2 y ∧ b2 y ≤ 90) := by
          intro p ps
          induction ps generalizing p with
          | nil =>
            intro hf y hy
            unfold joinD at hy
            rw [Lib.join_one] at hy
            have := (hf p (by simp)).1 y hy
            exact ⟨this.1, this.2.1⟩
          | cons q qs ih =>
            intro hf y hy
            rw [joinD_cons] at hy
            rcases List.mem_append.mp hy with hy | hy
            · have := (hf p (by simp)).1 y hy
              exact ⟨this.1, this.2.1⟩
            · rcases List.mem_cons.mp hy with rfl | hy
              · decide
              · exact ih q (fun z hz => hf z (by simp only [List.mem_cons] at hz ⊢; exact .inr hz)) y hy
        rw [ht]
        exact key o os hfine
      refine ⟨hbytes, ?_⟩
      have hj := all_low_join (fun y hy => (hbytes y hy).1)
      have hmap : ∀ c ∈ t.map b2, mapF c = (enc c, 1) ∧ Utf8.valid c = true := by
        intro c hc
        obtain ⟨y, hy, rfl⟩ := List.mem_map.mp hc
        have h1 := hbytes y hy
        have h0 := b2_lt y
        exact ⟨map_low h0.1 h1.1 h1.2, (valid_iff _).mpr (by omega)⟩
      have hsg : signs t = t.map b2 := by
        conv => lhs; rw [hj]
        exact signs_join' (fun c hc => (hmap c hc).2)
      obtain ⟨t1, t2⟩ := told_same (m := t.map b2) (fun c hc => (hmap c hc).1)
      rw [← hj] at t1
      rw [dom_signs, hsg]
      unfold domS
      rw [if_pos t2, t1, hcut]
      have hout : (o :: os).map outP = o :: os := by
        conv => rhs; rw [← List.map_id (o :: os)]
        refine List.map_congr_left fun q hq => ?_
        unfold outP
        rw [(hfine q hq).2]; rfl
      rw [if_pos, hout, ← ht]
      exact List.all_eq_true.mpr fun q hq => by unfold okP; rw [(hfine q hq).2]; rfl
    · cases h
  · cases h
end Go.Proofs.YtjgenpooedkfmaaGreatDoor

/- The walk of idna.Domain. -/
namespace Go.Proofs.YtjgenpooedkfmaaGreatDoor
open Go.RowKit
set_option maxRecDepth 10000

/-- what a function answers that makes a text, or none and no bytes -/
def RetE (w : World) (o : Option Bytes) : Ending → World → Prop := fun e w' => e = .returned (.tuple #[S (o.getD []), .bool o.isSome]) ∧ Below w.heap.size w w'
theorem RetE.none {w w' : World} {o : Option Bytes} (h : o = none) (hb : Below w.heap.size w w') : RetE w o (.returned (.tuple #[S [], .bool false])) w' := by subst h; exact ⟨rfl, hb⟩
theorem RetE.some {w w' : World} {o : Option Bytes} {x : Bytes} {s : ByteArray} (h : o = some x) (hs : s = bs x) (hb : Below w.heap.size w w') : RetE w o (.returned (.tuple #[.string s, .bool true])) w' := by subst h; subst hs; exact ⟨rfl, hb⟩
theorem own_strs (w : World) (base e : Nat) (ps : List Bytes) (hb : base ≤ w.heap.size) (hl : ps.length ≤ 1000000) :
    (w.alloc (.cells (Strs ps).toArray e)).ownsRow base e 1 (.slice (some ⟨w.heap.size, 0, none⟩) ps.length ps.length) ps.length (Strs ps) :=
  ⟨by simp, .inr ⟨w.heap.size, ps.length, _, rfl, hb, heap_alloc_new w _, Nat.le_refl _, by unfold maxLen; omega, by simp, List.take_of_length_le (by simp)⟩⟩
theorem mid_at {α : Type} {f : α → α} {ps : List α} {k : Nat} (h : k < ps.length) : ((ps.take k).map f ++ ps.drop k)[k]? = some ps[k] := by
  have hl : ((ps.take k).map f).length = k := by rw [List.length_map, List.length_take]; omega
  rw [List.getElem?_append_right (by omega), hl, Nat.sub_self, List.getElem?_drop, Nat.add_zero]
  exact List.getElem?_eq_getElem h
theorem mid_set {α : Type} {f : α → α} {ps : List α} {k : Nat} (h : k < ps.length) {y : α} (hy : f ps[k] = y) : ((ps.take k).map f ++ ps.drop k).set k y = (ps.take (k + 1)).map f ++ ps.drop (k + 1) := by
  have hl : ((ps.take k).map f).length = k := by rw [List.length_map, List.length_take]; omega
  rw [List.take_succ_eq_append_getElem h, List.map_append, List.drop_eq_getElem_cons h, List.set_append_right _ _ (by omega), hl, Nat.sub_self, List.append_assoc, ← hy]
  rfl
set_option maxHeartbeats 8000000 in
theorem domain_any (b : Bytes) (w : World) (hb : b.length ≤ 300000) (ht : (toldF (signs b)).length ≤ 100000) (hE : Env w) : Calls Tryz.prog 74 #[.string (bs b)] w fun e w' => RetE w (domF b) e w' := by
  have hsg := fun W (h : Below w.heap.size w W) => tsigns b W hb (hE.below h).1
  have hd1 : ∀ x ∈ signs b, (mapF x).2 = 0 → domF b = none := by
    intro x hx h
    obtain ⟨k, hk, rfl⟩ := List.getElem_of_mem hx
    exact dom_1 hk h
  have hd2 := fun (h : (signs b).all okM = true) (p : Bytes) (hp : p ∈ pieces (toldF (signs b))) (h2 : wrF p = none) => dom_2 h hp h2
  have hd3 := fun (h : (signs b).all okM = true) (h2 : (pieces (toldF (signs b))).all okP = true) => dom_3 h h2
  obtain ⟨O, hO⟩ : ∃ O, O = domF b := ⟨_, rfl⟩
  rw [← hO] at hd1 hd2 hd3 ⊢
  clear hO
  have hsl := signs_len _ b (Nat.le_refl _)
  obtain ⟨l, hl⟩ : ∃ l, l = signs b := ⟨_, rfl⟩
  rw [← hl] at hsg hsl ht hd1 hd2 hd3
  clear hl
  obtain ⟨s, hs⟩ : ∃ s, s = bs b := ⟨_, rfl⟩
  rw [← hs] at hsg ⊢
  clear hs
  obtain ⟨L, hL⟩ : ∃ L, L = l.length := ⟨_, rfl⟩
  have hLm : L ≤ 300000 := by omega
  clear hsl hb
  have HSG := Lib.hid hsg; clear hsg
  have HD1 := Lib.hid hd1; clear hd1
  have HD2 := Lib.hid hd2; clear hd2
  have HD3 := Lib.hid hd3; clear hd3
  have HL := Lib.hid hL; clear hL
  have HT := Lib.hid ht; clear ht
  have HEV := Lib.hid hE; clear hE
  go_enter Tryz.func74, Tryz.ntmps74
  go_wp2_with fail
  refine (HSG.out _ ((Below.refl _ _).alloc (Nat.le_refl _) _)).mono ?_
  rintro e w2 ⟨v2, rfl, ho2, hb2⟩
  have hbld := (Bld.fresh w).below hb2
  have HB2 := Lib.hid (((Below.refl _ w).alloc (Nat.le_refl _) _).trans (hb2.mono (by simp))); clear hb2
  have hat : ∀ k (hk : k < l.length), ∃ gs c, v2 = .slice (some ⟨gs, 0, none⟩) L c ∧ w.heap.size < gs ∧ gs < w2.heap.size ∧ w2.cell? ⟨gs, 0 + k, none⟩ = some (.int .i64 l[k]) := by
    intro k hk
    rcases own_where ho2 with ⟨_, h0⟩ | ⟨gs, c, h1, h2, h3, h4⟩
    · have : (I64s l).length = 0 := by rw [h0]; rfl
      rw [List.length_map] at this; omega
    · rw [show (I64s l).length = L by rw [List.length_map, HL.out]] at h1
      refine ⟨gs, c, h1, by simp at h2; omega, h3, ?_⟩
      have := h4 k (by rw [List.length_map]; exact hk)
      simpa using this
  obtain ⟨av, cv, hv⟩ := slice_val (Sl.of_own ho2)
  rw [show (I64s l).length = L by rw [List.length_map, HL.out]] at hv
  subst hv
  clear ho2
  have HAT := Lib.hid hat; clear hat
  have HBL := Lib.hid hbld; clear hbld
  have hz2 : w.heap.size < w2.heap.size := HBL.out.lt
  go_wp2_with fail
  go_loopw [17] (fun iv wr => ∃ (k : Nat) (g : Option Nat), k ≤ L ∧ iv = .int .i64 k ∧ (l.take k).all okM = true ∧ Bld w.heap.size g (toldF (l.take k)) wr ∧ (∀ j, g = some j → w2.heap.size ≤ j) ∧ Fr (fun j => j = w.heap.size) w2 wr) (fun i _ => L - (intOf i).toNat)
  case atStart => exact ⟨0, none, by omega, by simp, by simp, by simpa [toldF] using HBL.out, by simp, Fr.of_below (Below.refl _ _)⟩
  case round =>
    obtain ⟨k, g, hk, rfl, hall, hbd, hg, hfr⟩ := hrel
    have hbw : Below w.heap.size w wr := HB2.out.trans (hfr.below (by omega) (fun j hj => by omega))
    have HA := Lib.hid hall; clear hall
    have HBD := Lib.hid hbd; clear hbd
    have HG := Lib.hid hg; clear hg
    have HF := Lib.hid hfr; clear hfr
    have HBW := Lib.hid hbw; clear hbw
    by_cases hlt : k < L
    · have hx : k < l.length := by have := HL.out; omega
      obtain ⟨gs, c', hav, hgs1, hgs2, hc2⟩ := HAT.out k hx
      obtain ⟨rfl, rfl⟩ : av = some ⟨gs, 0, none⟩ ∧ cv = c' := by injection hav with e1 e2 e3; exact ⟨e1, e3⟩
      have hcell : wr.cell? ⟨gs, 0 + k, none⟩ = some (.int .i64 l[k]) := (World.cell?_of_block (w := w2) (a := ⟨gs, 0 + k, none⟩) (HF.out.block gs hgs2 (by omega))).trans hc2
      rw [Nat.zero_add] at hcell
      clear hav hc2
      have hts := told_snoc hx
      have hok := fun h => all_snoc3 (f := okM) hx HA.out h
      have hbd1 := HD1.out _ (List.getElem_mem hx)
      have hml := map_len l[k]
      have htl := told_len (l.take k)
      rw [List.length_take] at htl
      obtain ⟨x, hxx⟩ : ∃ x, x = l[k] := ⟨_, rfl⟩
      rw [← hxx] at hcell hts hok hbd1 hml
      clear hxx
      have hma := fun W => map_any x W
      have hok2 : (mapF x).2 ≠ 0 → (l.take (k + 1)).all okM = true := fun h => hok (decide_eq_true h)
      clear hok
      obtain ⟨K, hK⟩ : ∃ K, K = (mapF x).2 := ⟨_, rfl⟩
      obtain ⟨B, hB⟩ : ∃ B, B = (mapF x).1 := ⟨_, rfl⟩
      rw [← hB] at hts hml
      rw [← hK] at hbd1 hok2
      rw [← hK, ← hB] at hma
      clear hK hB
      have HMA := Lib.hid hma; clear hma
      have HTS := Lib.hid hts; clear hts
      have HLN : (toldF (l.take k)).length + B.length ≤ 1099511627776 := by omega
      have HLN2 := Lib.hid HLN; clear HLN htl hml
      by_cases hK0 : K = 0
      · have hf := hbd1 hK0
        have HO := Lib.hid hf; clear hf hbd1 hok2
        subst hK0
        go_wp2_with fail
        refine (HMA.out _).mono ?_
        rintro e w3 ⟨rfl, hb3⟩
        have HB3 := Lib.hid (HBW.out.trans (hb3.mono HBW.out.size)); clear hb3
        go_wp2_with fail
        go_ret2
        exact RetE.none HO.out HB3.out
      · have q0 : (K == 0) = false := by simp [hK0]
        have hall2 := hok2 hK0
        have HA2 := Lib.hid hall2; clear hall2 hok2 hbd1 hK0
        go_wp2_with fail
        refine (HMA.out _).mono ?_
        rintro e w3 ⟨rfl, hb3⟩
        have HB3 := Lib.hid hb3; clear hb3
        go_wp2_with fail
        refine (writeString_any B (HBD.out.below HB3.out) HLN2.out).mono ?_
        rintro e w4 ⟨rfl, hrb⟩
        have HRB := Lib.hid hrb; clear hrb
        go_wp2_with fail
        obtain ⟨g', a1, a2, a3⟩ := HRB.out
        have HFR := Lib.hid (fr_step HF.out HB3.out a3 HG.out)
        have HG' : ∀ j, g' = some j → w2.heap.size ≤ j := by
          intro j hj
          rcases a2 with h | ⟨j', h, h'⟩
          · exact HG.out j (h ▸ hj)
          · rw [h] at hj; injection hj with hj
            have := HF.out.size
            have := HB3.out.size
            omega
        have HG2 := Lib.hid HG'; clear HG' a2 a3
        have HA1 := Lib.hid a1; clear a1
        go_roundw
        case rel => exact ⟨k + 1, g', by omega, by simp, HA2.out, by rw [HTS.out]; exact HA1.out, HG2.out, HFR.out⟩
        case measure => simp [intOf]; omega
    · obtain rfl : L = k := by omega
      have hall := HA.out
      have hbd := HBD.out
      rw [List.take_of_length_le (by have := HL.out; omega)] at hall hbd
      have hd2 := HD2.out hall
      have hd3 := HD3.out hall
      have ht := HT.out
      obtain ⟨t, htt⟩ : ∃ t, t = toldF l := ⟨_, rfl⟩
      rw [← htt] at hd2 hd3 ht hbd
      clear htt hall
      have hstr := bstring_any w.heap.size hbd (Nat.le_refl _) (fun j hj => by have := HG.out j hj; omega)
      have HSTR := Lib.hid hstr; clear hstr hbd
      have hpn := pieces_num t
      have hpl := fun p (hp : p ∈ pieces t) => pieces_len hp
      have hsp := fun W (h : Env W) => split_dot t W h (by omega)
      obtain ⟨ps, hps⟩ : ∃ ps, ps = pieces t := ⟨_, rfl⟩
      rw [← hps] at hd2 hd3 hpn hpl hsp
      clear hps
      obtain ⟨N, hN⟩ : ∃ N, N = ps.length := ⟨_, rfl⟩
      rw [← hN] at hpn hsp
      have hNm : N ≤ 100001 := by omega
      clear hpn
      have HN := Lib.hid hN; clear hN
      have HSP := Lib.hid hsp; clear hsp
      have HP2 := Lib.hid hd2; clear hd2
      have HP3 := Lib.hid hd3; clear hd3
      have hpl2 : ∀ p ∈ ps, p.length ≤ 100000 := fun p hp => by have := hpl p hp; omega
      have HPL := Lib.hid hpl2; clear hpl2 hpl ht
      go_wp2_with fail
      refine (HSTR.out).mono ?_
      rintro e w5 ⟨rfl, hb5⟩
      have HB5 := Lib.hid (HBW.out.trans hb5); clear hb5
      go_wp2_with fail
      refine (HSP.out _ (HEV.out.below HB5.out)).mono ?_
      rintro e w6 ⟨rfl, hw6⟩
      have hown : w6.ownsRow w.heap.size 9 1 (.slice (some ⟨w5.heap.size, 0, none⟩) N N) N (Strs ps) := by
        rw [hw6, HN.out]
        exact own_strs w5 w.heap.size _ ps HB5.out.size (by have := HN.out; omega)
      have hb6 : Below w.heap.size w w6 := by rw [hw6]; exact HB5.out.alloc HB5.out.size _
      have hgS : w.heap.size ≤ w5.heap.size := HB5.out.size
      clear hw6
      obtain ⟨gS, hgg⟩ : ∃ gS, gS = w5.heap.size := ⟨_, rfl⟩
      rw [← hgg] at hown hgS ⊢
      clear hgg
      have HOW := Lib.hid hown; clear hown
      have HB6 := Lib.hid hb6; clear hb6
      clear HBW HB5 HF HG HBD HA HSTR
      go_wp2_with fail
      go_loopw [35] (fun iv wr => ∃ (k : Nat), k ≤ N ∧ iv = .int .i64 k ∧ (ps.take k).all okP = true ∧ wr.ownsRow w.heap.size 9 1 (.slice (some ⟨gS, 0, none⟩) N N) N (Strs ((ps.take k).map outP ++ ps.drop k)) ∧ Below w.heap.size w wr) (fun i _ => N - (intOf i).toNat)
      case atStart => exact ⟨0, by omega, by simp, by simp, by simpa using HOW.out, HB6.out⟩
      case round =>
        obtain ⟨k, hk, rfl, hall, hown, hbl⟩ := hrel
        have HA := Lib.hid hall; clear hall
        have HO := Lib.hid hown; clear hown
        have HB := Lib.hid hbl; clear hbl
        by_cases hlt2 : k < N
        · have hx : k < ps.length := by have := HN.out; omega
          have hcell : wr.cell? ⟨gS, k, none⟩ = some (.string (bs ps[k])) := by
            have := HO.out.cells (g := gS) rfl k (.string (bs ps[k])) (by rw [List.getElem?_map, mid_at hx]; rfl)
            rwa [addr_add, Nat.zero_add] at this
          have hmem : ps[k] ∈ ps := List.getElem_mem hx
          have hwt := written_any ps[k] wr (HPL.out _ hmem) (HEV.out.below HB.out).1
          have hbd := HP2.out ps[k] hmem
          have hok : okP ps[k] = true → (ps.take (k + 1)).all okP = true := fun h => by
            rw [List.take_succ_eq_append_getElem hx, List.all_append, HA.out]; simp [h]
          have hset := fun y h => mid_set (f := outP) hx (y := y) h
          obtain ⟨p, hp⟩ : ∃ p, p = ps[k] := ⟨_, rfl⟩
          rw [← hp] at hcell hwt hbd hok hset
          clear hp hmem hx
          have HWT := Lib.hid hwt; clear hwt
          have HBAD := Lib.hid hbd; clear hbd
          have HOK := Lib.hid hok; clear hok
          have HSET := Lib.hid hset; clear hset
          cases hw : wrF p with
          | none =>
            have HNO := Lib.hid (HBAD.out hw)
            rw [hw] at HWT
            clear hw
            go_wp2_with fail
            refine (HWT.out).mono ?_
            rintro e w7 ⟨x, rfl, _, hb7⟩
            have HB7 := Lib.hid (HB.out.trans (hb7.mono HB.out.size)); clear hb7
            go_wp2_with fail
            go_ret2
            exact RetE.none HNO.out HB7.out
          | some y =>
            have hy1 : outP p = y := by unfold outP; rw [hw]; rfl
            have hy2 : okP p = true := by unfold okP; rw [hw]; rfl
            have HY1 := Lib.hid (HSET.out y hy1)
            have HY2 := Lib.hid (HOK.out hy2)
            rw [hw] at HWT
            clear hw hy1 hy2
            go_wp2_with fail
            refine (HWT.out).mono ?_
            rintro e w7 ⟨x, rfl, hx, hb7⟩
            obtain rfl : x = y := hx y rfl
            clear hx
            have ho7 := own_below HO.out hb7
            have HB7 := Lib.hid (HB.out.trans (hb7.mono HB.out.size))
            have hcell7 : w7.cell? ⟨gS, k, none⟩ = some (.string (bs p)) := by
              rw [hb7.cell (p := ⟨gS, k, none⟩) (block_lt_of_cell hcell)]; exact hcell
            have hfz7 := ho7.frozenAt k
            have hst := ho7.stored k (.string (bs x))
            have hset2 : (Strs ((ps.take k).map outP ++ ps.drop k)).set k (.string (bs x)) = Strs ((ps.take (k + 1)).map outP ++ ps.drop (k + 1)) := by
              rw [← HY1.out]
              exact (List.map_set (f := fun b => Value.string (bs b))).symm
            have HST := Lib.hid (hset2 ▸ hst.1); clear hst hset2 ho7 hb7
            go_wp2_with fail
            go_roundw
            case rel => exact ⟨k + 1, by omega, by simp, HY2.out, HST.out, HB7.out.setCell hgS _⟩
            case measure => simp [intOf]; omega
        · obtain rfl : N = k := by omega
          have hall := HA.out
          have hown := HO.out
          rw [List.take_of_length_le (by have := HN.out; omega)] at hall hown
          rw [List.drop_of_length_le (by have := HN.out; omega), List.append_nil] at hown
          have hno := HP3.out hall
          have HNO := Lib.hid hno; clear hno hall
          have hml : (ps.map outP).length = N := by rw [List.length_map, HN.out]
          have hcs : ∀ j (hj : j < (ps.map outP).length), wr.cell? ⟨gS, 0 + j, none⟩ = some (.string (bs (ps.map outP)[j])) := by
            intro j hj
            have := hown.cells (g := gS) rfl j (.string (bs (ps.map outP)[j])) (by rw [List.getElem?_map, List.getElem?_eq_getElem hj]; rfl)
            rwa [addr_add] at this
          have hglt := (hown.lt gS rfl).2
          have hmx : ∀ q ∈ ps.map outP, q.length ≤ 1000000 := by
            intro q hq
            obtain ⟨p, hp, rfl⟩ := List.mem_map.mp hq
            have h1 := out_len p
            have h2 := HPL.out p hp
            omega
          have hjn := join_dots gS N N (ps.map outP) wr hcs hglt hml.symm (Nat.le_refl _) (by omega) hmx
          have HJN := Lib.hid hjn; clear hjn hcs hmx hml hown
          go_wp2_with fail
          refine (HJN.out).mono ?_
          rintro e w8 ⟨rfl, hb8⟩
          have HB8 := Lib.hid (HB.out.trans (hb8.mono HB.out.size)); clear hb8
          go_wp2_with fail
          go_ret2
          exact RetE.some HNO.out rfl HB8.out
end Go.Proofs.YtjgenpooedkfmaaGreatDoor

/- How long a name may be. -/
namespace Go.Proofs.YtjgenpooedkfmaaGreatDoor
open Go.RowKit
set_option maxRecDepth 10000

theorem encR_len2 (l : List Int) : (encR l).1.length ≤ 1 + 8 * l.length := by
  unfold encR
  split
  · simp
  · next h =>
    have h1 : l.all sg = true := by
      by_cases h2 : l.all sg = true
      · exact h2
      · exact absurd (.inr h2) h
    obtain ⟨W, e, _, hw, _⟩ := encF_parts (List.all_eq_true.mp h1) (by omega)
    have hb := bas_le l
    have hh : (hyp (bas l)).length ≤ 1 := by unfold hyp; split <;> simp
    simp only
    rw [e, List.length_append, List.length_append]
    omega
theorem out_len2 (p : Bytes) : (outP p).length ≤ 5 + 8 * p.length := by
  have h2 := encR_len2 (signs p)
  have h3 := signs_len _ p (Nat.le_refl _)
  unfold outP wrF
  split
  · split
    · split
      · split
        · rw [Option.getD_some]; omega
        · simp
      · simp
    · simp
  · split
    · rw [Option.getD_some]; omega
    · split
      · split
        · rw [Option.getD_some, List.length_append]
          have : pre4.length = 4 := rfl
          omega
        · simp
      · simp
theorem joinD_length (x : Bytes) (r : List Bytes) : (joinD (x :: r)).length = Lib.lens (x :: r) + r.length := by
  unfold joinD
  have e1 : ([46] : List UInt8).length = 1 := rfl
  have e : Lib.lens (x :: r) = x.length + Lib.lens r := by simp [Lib.lens]
  rw [Lib.join_cons, List.length_append, Lib.joinTail_length, e1, e]
  omega
theorem lens_out : ∀ ps : List Bytes, Lib.lens (ps.map outP) ≤ 5 * ps.length + 8 * Lib.lens ps
  | [] => by simp [Lib.lens]
  | p :: ps => by
    have ih := lens_out ps
    have hp := out_len2 p
    have e1 : Lib.lens ((p :: ps).map outP) = (outP p).length + Lib.lens (ps.map outP) := by simp [Lib.lens]
    have e2 : Lib.lens (p :: ps) = p.length + Lib.lens ps := by simp [Lib.lens]
    rw [e1, e2, List.length_cons]
    omega
theorem dom_len2 {b t : Bytes} (h : domF b = some t) : t.length ≤ 8 * (toldF (signs b)).length + 8 := by
  rw [dom_signs] at h
  unfold domS at h
  split at h
  · split at h
    · have ht := Option.some.inj h
      obtain ⟨p, ps, hp⟩ := cutD_ne (toldF (signs b))
      have hj := join_cut (toldF (signs b))
      have hl := lens_out (p :: ps)
      have hl2 := congrArg List.length hj
      rw [hp, joinD_length] at hl2
      rw [← ht, hp, List.map_cons, joinD_length, List.length_map]
      rw [List.map_cons, List.length_cons] at hl
      omega
    · cases h
  · cases h
end Go.Proofs.YtjgenpooedkfmaaGreatDoor
