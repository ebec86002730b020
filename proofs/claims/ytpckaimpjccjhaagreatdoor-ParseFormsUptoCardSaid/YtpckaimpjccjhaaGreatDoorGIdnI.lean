/- IdnI IdnM IdnN IdnJ IdnQ: joined. -/
import Derived.Shelf.Strings.Split
import Derived.Shelf.Strings.OnBuilder
import Derived.Laws.OwnMore
import Derived.Test.YtpckaimpjccjhaaGreatDoorGIdnG
import Derived.Test.YtpckaimpjccjhaaGreatDoorGSlic
import Derived.Test.YtpckaimpjccjhaaGreatDoorGPunL
set_option maxHeartbeats 40000000
namespace Go.Proofs.YtpckaimpjccjhaaGreatDoor
open Go.RowKit
set_option maxRecDepth 10000
def Env (w : World) : Prop := Tabs w ∧ ∃ m, w.cell? ⟨2, 0, none⟩ = some (.int .i64 m)
theorem Env.lt {w : World} (h : Env w) : 2 < w.heap.size := by
  obtain ⟨_, m, hm⟩ := h
  exact block_lt_of_cell hm
theorem Env.below {w w' : World} (h : Env w) (hb : Below w.heap.size w w') : Env w' := by
  obtain ⟨h1, m, hm⟩ := h
  exact ⟨h1.below hb, m, (hb.cell (p := ⟨2, 0, none⟩) (block_lt_of_cell hm)).trans hm⟩
def okM (c : Int) : Bool := decide ((mapF c).2 ≠ 0)
def toldF (l : List Int) : Bytes := l.flatMap (fun c => (mapF c).1)
theorem told_snoc {l : List Int} {k : Nat} (h : k < l.length) : toldF (l.take (k + 1)) = toldF (l.take k) ++ (mapF l[k]).1 := by
  unfold toldF
  rw [List.take_succ_eq_append_getElem h, List.flatMap_append]
  simp
theorem to_join_len (c : Int) : (joinF (toF c)).length <= 12 := by
  have h1 := joinF_len (toF c)
  have h2 := toF_len c
  omega
theorem map_len (c : Int) : (mapF c).1.length <= 12 := by
  have h1 := to_join_len c
  have h2 := (enc_len c).2
  unfold mapF
  split
  · exact h1
  split
  · simp
  split
  · simp only; omega
  · simp
theorem told_len : ∀ l : List Int, (toldF l).length <= 12 * l.length
  | [] => by simp [toldF]
  | c :: r => by
    have := told_len r
    have := map_len c
    have e : toldF (c :: r) = (mapF c).1 ++ toldF r := by simp [toldF]
    rw [e, List.length_append, List.length_cons]; omega
def dotB : ByteArray := ⟨#[46]⟩
def pieces (t : Bytes) : List Bytes := (Lib.splitB dotB 0 (Lib.countB (bs t) dotB) (bs t)).map ls
def okP (p : Bytes) : Bool := (wrF p).isSome
def outP (p : Bytes) : Bytes := (wrF p).getD []
def joinD (ps : List Bytes) : Bytes := Lib.join ps [46]
def domF (b : Bytes) : Option Bytes :=
  if (signs b).all okM = true then (if (pieces (toldF (signs b))).all okP = true then some (joinD ((pieces (toldF (signs b))).map outP)) else none) else none
theorem dom_1 {b : Bytes} {k : Nat} (h : k < (signs b).length) (hb : (mapF (signs b)[k]).2 = 0) : domF b = none := by
  unfold domF
  rw [if_neg]
  intro ha
  have := List.all_eq_true.mp ha _ (List.getElem_mem h)
  unfold okM at this
  simp [hb] at this
theorem dom_2 {b : Bytes} (h : (signs b).all okM = true) {p : Bytes} (hp : p ∈ pieces (toldF (signs b))) (hb : wrF p = none) : domF b = none := by
  unfold domF
  rw [if_pos h, if_neg]
  intro ha
  have := List.all_eq_true.mp ha _ hp
  unfold okP at this
  simp [hb] at this
theorem dom_3 {b : Bytes} (h : (signs b).all okM = true) (h2 : (pieces (toldF (signs b))).all okP = true) : domF b = some (joinD ((pieces (toldF (signs b))).map outP)) := by
  unfold domF
  rw [if_pos h, if_pos h2]
abbrev Strs (l : List Bytes) : List Value := l.map fun b => Value.string (bs b)
theorem fr_step {b0 : Nat} {g : Option Nat} {w2 wr w3 w4 : World} (h : Fr (fun k => k = b0) w2 wr) (hb : Below wr.heap.size wr w3) (hr : Fr (fun k => k = b0 ∨ g = some k) w3 w4) (hg : ∀ k, g = some k -> w2.heap.size <= k) : Fr (fun k => k = b0) w2 w4 := by
  have h1 := h.trans (Fr.of_below hb)
  refine ⟨hr.os.trans h1.os, hr.tape.trans h1.tape, hr.output.trans h1.output, Nat.le_trans h1.size hr.size, fun k hk hn => ?_⟩
  refine (hr.block k (Nat.lt_of_lt_of_le hk h1.size) ?_).trans (h1.block k hk hn)
  rintro (h2 | h2)
  · exact hn h2
  · have := hg k h2; omega
theorem own_where {w : World} {base e n : Nat} {v : Value} {xs : List Value} (h : w.ownsRow base e 1 v n xs) : (v = .slice none 0 0 ∧ xs = []) ∨ ∃ g c, v = .slice (some ⟨g, 0, none⟩) n c ∧ base <= g ∧ g < w.heap.size ∧ ∀ j (hj : j < xs.length), w.cell? ⟨g, 0 + j, none⟩ = some xs[j] := by
  have hl := h.1
  rcases h.2 with ⟨rfl, rfl⟩ | ⟨g, cap, cur, rfl, hg, hb, hn, hm, hsz, htk⟩
  · exact .inl ⟨rfl, List.eq_nil_of_length_eq_zero (by omega)⟩
  · refine .inr ⟨g, cap, rfl, hg, ?_, fun j hj => ?_⟩
    · rcases Nat.lt_or_ge g w.heap.size with hlt | hge
      · exact hlt
      · rw [Array.getElem?_eq_none hge] at hb; cases hb
    · have := h.cells (g := g) rfl j xs[j] (by simp)
      rwa [addr_add] at this
theorem out_len (p : Bytes) : (outP p).length <= 3004 + p.length := by
  unfold outP wrF
  have h2 := encR_len (signs p)
  split
  · split
    · split
      · split <;> simp
      · simp
    · simp
  · split
    · simp
    · split
      · split
        · rw [Option.getD_some, List.length_append]
          have : pre4.length = 4 := rfl
          omega
        · simp
      · simp
theorem split_le : ∀ (k : Nat) (s : ByteArray), ∀ p ∈ Lib.splitB dotB 0 k s, p.size <= s.size
  | 0, s, p, h => by
    rw [Lib.splitB_zero] at h
    simp at h; subst h; exact Nat.le_refl _
  | k + 1, s, p, h => by
    rcases Lib.indexB_cases s dotB with hi | ⟨i, hi, hle⟩
    · rw [Lib.splitB_miss _ _ _ _ hi] at h
      simp at h; subst h; exact Nat.le_refl _
    · rw [Lib.splitB_hit _ _ _ _ i hi] at h
      rcases List.mem_cons.mp h with rfl | h
      · simp [ByteArray.size_extract]; omega
      · have := split_le k _ p h
        simp only [ByteArray.size_extract] at this
        omega
theorem pieces_num (t : Bytes) : (pieces t).length = Lib.countB (bs t) dotB + 1 ∧ Lib.countB (bs t) dotB <= t.length := by
  have h1 := Lib.countB_le dotB (by decide) _ (bs t) (Nat.le_refl _)
  have h2 := Lib.splitB_all dotB (by decide) 0 _ (bs t) rfl
  rw [bs_size] at h1
  exact ⟨by unfold pieces; rw [List.length_map, h2], h1⟩
theorem pieces_len {t p : Bytes} (h : p ∈ pieces t) : p.length <= t.length := by
  unfold pieces at h
  obtain ⟨q, hq, rfl⟩ := List.mem_map.mp h
  have := split_le _ _ q hq
  rw [bs_size] at this
  rw [ls_length]; exact this
theorem split_dot (t : Bytes) (w : World) (hE : Env w) (ht : t.length <= 1024000000) :
    Calls Tryz.prog 219 #[.string (bs t), .string ⟨#[46]⟩] w fun e w' => e = .returned (.slice (some ⟨w.heap.size, 0, none⟩) (pieces t).length (pieces t).length) ∧ w' = w.alloc (.cells (Strs (pieces t)).toArray 9) := by
  obtain ⟨_, m, hm⟩ := hE
  have h := Any.strings_Split Tryz.laysSplit (by kernel_rfl) (bs t) dotB m w (by rw [bs_size]; omega) hm (by decide)
  have e : Strs (pieces t) = (Lib.splitB dotB 0 (Lib.countB (bs t) dotB) (bs t)).map Value.string := by
    show (List.map ls _).map (fun b => Value.string (bs b)) = _
    rw [List.map_map]
    refine List.map_congr_left fun x _ => ?_
    simp
  rw [(pieces_num t).1, e]
  exact h
theorem bldj_extra : Builder.Extra Tryz.prog Tryz.laysJoin_ren := {
  sizeBuilder := by kernel_rfl,
  liesBuilder := by kernel_rfl,
  t5 := Tryz.underlying5,
  a5 := Tryz.isAgg5,
  z5 := Tryz.sizeOf5,
  v5 := Tryz.zeroValue5,
  infoByte := by kernel_rfl,
  cellsByte := by kernel_rfl,
  sizeByte := by kernel_rfl,
  neB5 := by decide }
theorem join_dots (g n c : Nat) (ps : List Bytes) (w : World) (h : ∀ j (hj : j < ps.length), w.cell? ⟨g, 0 + j, none⟩ = some (.string (bs ps[j]))) (hg : g < w.heap.size) (hn : n = ps.length) (hc : n <= c) (hl : n <= 1024000000) (hJ : (joinD ps).length <= 1000000000000) :
    Calls Tryz.prog 221 #[.slice (some ⟨g, 0, none⟩) n c, .string ⟨#[46]⟩] w fun e w' => e = .returned (S (joinD ps)) ∧ Below w.heap.size w w' := by
  subst hn
  have hmap : (ps.map bs).map (·.data.toList) = ps := by rw [List.map_map]; conv => rhs; rw [<- List.map_id ps]
                                                         refine List.map_congr_left fun x _ => ?_
                                                         exact ls_bs x
  have h1 := Any.strings_Join Tryz.laysJoin bldj_extra g 0 c (ps.map bs) dotB w (fun j x hx => by
      rw [List.getElem?_map] at hx
      cases hp : ps[j]? with
      | none => rw [hp] at hx; cases hx
      | some p =>
        rw [hp] at hx
        obtain ⟨hjl, rfl⟩ := List.getElem?_eq_some_iff.1 hp
        cases hx
        exact h j hjl) hg (by rw [List.length_map]; omega) (by rw [List.length_map]; exact hc)
    (by rw [hmap]; show (joinD ps).length <= _; omega)
  rw [hmap, List.length_map] at h1
  exact h1

def cutD : Bytes -> List Bytes
 | [] => [[]]
 | x :: r => if x = 46 then [] :: cutD r else match cutD r with | [] => [[x]] | p :: ps => (x :: p) :: ps
theorem cutD_nil : cutD [] = [[]] := rfl
theorem cutD_dot (r : Bytes) : cutD (46 :: r) = [] :: cutD r := by rw [cutD, if_pos rfl]
theorem cutD_ne : ∀ t, ∃ p ps, cutD t = p :: ps
 | [] => ⟨_, _, rfl⟩
 | x :: r => by
  unfold cutD
  split
  ·exact ⟨_, _, rfl⟩
  ·obtain ⟨p, ps, h⟩ := cutD_ne r
   rw [h]; exact ⟨_, _, rfl⟩
theorem cutD_other {x : UInt8} {r p : Bytes} {ps : List Bytes} (h : x ≠ 46) (hr : cutD r = p :: ps) : cutD (x :: r) = (x :: p) :: ps := by
 rw [cutD, if_neg h, hr]
theorem ix_cons (x : UInt8) (r : Bytes) : Lib.index (x :: r) [46] = if x = 46 then 0 else if Lib.index r [46] = -1 then -1 else Lib.index r [46] + 1 := by
 rw [Lib.index_one, Lib.index_one, Lib.indexByte]
 by_cases h : x = 46
 ·subst h; simp
 ·rw [if_neg h, if_neg (by simpa using h)]
  simp only [beq_iff_eq]
theorem count_cons' (x : UInt8) (r : Bytes) : Lib.count (x :: r) [46] = if x = 46 then Lib.count r [46] + 1 else Lib.count r [46] := by
 rw [Lib.count_one, Lib.count_one, List.count_cons]
 by_cases h : x = 46
 ·subst h; simp
 ·simp [h]
theorem ix_none : ∀ r : Bytes, Lib.count r [46] = 0 -> Lib.index r [46] = -1 ∧ cutD r = [r]
 | [], _ => ⟨by rw [Lib.index_one]; rfl, rfl⟩
 | x :: r, h => by
  rw [count_cons'] at h
  split at h
  ·omega
  ·next hx =>
   obtain ⟨h1, h2⟩ := ix_none r h
   exact ⟨by rw [ix_cons, if_neg hx, if_pos h1], cutD_other hx h2⟩
theorem ix_some : ∀ r : Bytes, Lib.count r [46] ≠ 0 -> ∃ i : Nat, Lib.index r [46] = i
 | [], h => by rw [Lib.count_one] at h; simp at h
 | x :: r, h => by
  rw [count_cons'] at h
  rw [ix_cons]
  by_cases hx : x = 46
  ·exact ⟨0, by rw [if_pos hx]; try rfl⟩
  ·rw [if_neg hx] at h
   obtain ⟨i, hi⟩ := ix_some r h
   exact ⟨i + 1, by rw [if_neg hx, if_neg (by omega), hi]; rfl⟩
theorem splitK_hit {s : Bytes} {k i : Nat} (h : Lib.index s [46] = i) : Lib.splitK [46] 0 (k + 1) s = s.take i :: Lib.splitK [46] 0 k (s.drop (i + 1)) := by
 rw [Lib.splitK, if_neg (by rw [h]; simp), h]
 rfl
theorem splitK_cut : ∀ t : Bytes, Lib.splitK [46] 0 (Lib.count t [46]) t = cutD t
 | [] => by
  rw [Lib.count_one]
  rfl
 | x :: r => by
  have ih := splitK_cut r
  rw [count_cons']
  by_cases hx : x = 46
  ·subst hx
   rw [if_pos rfl, splitK_hit (i := 0) (by rw [ix_cons, if_pos rfl]; rfl), cutD_dot]
   rw [show (46 :: r).drop (0 + 1) = r from rfl, ih]
   rfl
  ·rw [if_neg hx]
   by_cases h0 : Lib.count r [46] = 0
   ·rw [h0]
    exact (cutD_other hx (ix_none r h0).2).symm
   ·obtain ⟨i, hi⟩ := ix_some r h0
    obtain ⟨k, hk⟩ : ∃ k, Lib.count r [46] = k + 1 := ⟨Lib.count r [46] - 1, by omega⟩
    rw [hk, splitK_hit hi] at ih
    rw [hk, splitK_hit (i := i + 1) (by rw [ix_cons, if_neg hx, if_neg (by omega), hi]; rfl)]
    rw [cutD_other hx ih.symm]
    rfl
theorem pieces_cut (t : Bytes) : pieces t = cutD t := by
 unfold pieces
 have h := Lib.splitB_data dotB 0 (Lib.countB (bs t) dotB) (bs t)
 have e1 : (bs t).data.toList = t := ls_bs t
 have e2 : dotB.data.toList = [46] := rfl
 have e3 : Lib.countB (bs t) dotB = Lib.count t [46] := by
  show Lib.count (bs t).data.toList dotB.data.toList = _
  rw [e1, e2]
 rw [e1, e2, e3, splitK_cut] at h
 rw [e3]
 exact h
theorem joinD_cons (p : Bytes) (q : Bytes) (ps : List Bytes) : joinD (p :: q :: ps) = p ++ 46 :: joinD (q :: ps) := by
 unfold joinD
 rw [Lib.join_cons, Lib.join_cons]
 unfold Lib.joinTail
 simp
theorem join_cut : ∀ t : Bytes, joinD (cutD t) = t
 | [] => by rw [cutD_nil]; unfold joinD; rw [Lib.join_one]
 | x :: r => by
  have ih := join_cut r
  obtain ⟨p, ps, h⟩ := cutD_ne r
  by_cases hx : x = 46
  ·subst hx
   rw [cutD_dot]
   rw [h] at ih ⊢
   rw [joinD_cons, ih]; rfl
  ·rw [cutD_other hx h]
   rw [h] at ih
   cases ps with
   | nil =>
    unfold joinD at *
    rw [Lib.join_one] at *
    rw [ih]
   | cons q qs =>
    rw [joinD_cons] at *
    rw [<- ih]; rfl

def domS (l : List Int) : Option Bytes := if l.all okM = true then (if (cutD (toldF l)).all okP = true then some (joinD ((cutD (toldF l)).map outP)) else none) else none
theorem dom_signs (b : Bytes) : domF b = domS (signs b) := by unfold domF domS; rw [pieces_cut]

def RetE (w : World) (o : Option Bytes) : Ending -> World -> Prop := fun e w' => e = .returned (.tuple #[S (o.getD []), .bool o.isSome]) ∧ Below w.heap.size w w'
theorem RetE.none {w w' : World} {o : Option Bytes} (h : o = none) (hb : Below w.heap.size w w') : RetE w o (.returned (.tuple #[S [], .bool false])) w' := by subst h; exact ⟨rfl, hb⟩
theorem RetE.some {w w' : World} {o : Option Bytes} {x : Bytes} {s : ByteArray} (h : o = some x) (hs : s = bs x) (hb : Below w.heap.size w w') : RetE w o (.returned (.tuple #[.string s, .bool true])) w' := by subst h; subst hs; exact ⟨rfl, hb⟩
theorem lens_out0 : ∀ ps : List Bytes, Lib.lens (ps.map outP) <= 3004 * ps.length + Lib.lens ps
 | [] => by simp [Lib.lens]
 | x :: r => by
  have ih := lens_out0 r
  have h := out_len x
  have e1 : Lib.lens ((x :: r).map outP) = (outP x).length + Lib.lens (r.map outP) := by simp [Lib.lens]
  have e2 : Lib.lens (x :: r) = x.length + Lib.lens r := by simp [Lib.lens]
  rw [e1, e2, List.length_cons]
  omega
theorem joinD_len0 (x : Bytes) (r : List Bytes) : (joinD (x :: r)).length = Lib.lens (x :: r) + r.length := by
 unfold joinD
 have e1 : ([46] : List UInt8).length = 1 := rfl
 have e : Lib.lens (x :: r) = x.length + Lib.lens r := by simp [Lib.lens]
 rw [Lib.join_cons, List.length_append, Lib.joinTail_length, e1, e]
 omega
theorem join_out_len (t : Bytes) : (joinD ((pieces t).map outP)).length <= 3005 * (t.length + 1) := by
 rw [pieces_cut]
 obtain ⟨p, ps, h⟩ := cutD_ne t
 have hj := join_cut t
 rw [h] at hj ⊢
 have h1 := congrArg List.length hj
 rw [joinD_len0] at h1
 have h2 := lens_out0 (p :: ps)
 rw [List.map_cons] at h2 ⊢
 rw [joinD_len0, List.length_map]
 rw [List.length_cons] at h2
 omega
theorem own_strs (w : World) (base e : Nat) (ps : List Bytes) (hb : base <= w.heap.size) (hl : ps.length <= 1024000000) :
  (w.alloc (.cells (Strs ps).toArray e)).ownsRow base e 1 (.slice (some ⟨w.heap.size, 0, none⟩) ps.length ps.length) ps.length (Strs ps) :=
 ⟨by simp, .inr ⟨w.heap.size, ps.length, _, rfl, hb, heap_alloc_new w _, Nat.le_refl _, by unfold maxLen; omega, by simp, List.take_of_length_le (by simp)⟩⟩
theorem mid_at {α : Type} {f : α -> α} {ps : List α} {k : Nat} (h : k < ps.length) : ((ps.take k).map f ++ ps.drop k)[k]? = some ps[k] := by
 have hl : ((ps.take k).map f).length = k := by rw [List.length_map, List.length_take]; omega
 rw [List.getElem?_append_right (by omega), hl, Nat.sub_self, List.getElem?_drop, Nat.add_zero]
 exact List.getElem?_eq_getElem h
theorem mid_set {α : Type} {f : α -> α} {ps : List α} {k : Nat} (h : k < ps.length) {y : α} (hy : f ps[k] = y) : ((ps.take k).map f ++ ps.drop k).set k y = (ps.take (k + 1)).map f ++ ps.drop (k + 1) := by
 have hl : ((ps.take k).map f).length = k := by rw [List.length_map, List.length_take]; omega
 rw [List.take_succ_eq_append_getElem h, List.map_append, List.drop_eq_getElem_cons h, List.set_append_right _ _ (by omega), hl, Nat.sub_self, List.append_assoc, <- hy]
 rfl
theorem domain_any (b : Bytes) (w : World) (hb : b.length <= 307200000) (ht : (toldF (signs b)).length <= 102400000) (hE : Env w) : Calls Tryz.prog 211 #[.string (bs b)] w fun e w' => RetE w (domF b) e w' := by
 have hsg := fun W (h : Below w.heap.size w W) => tsigns b W hb (hE.below h).1
 have hd1 : ∀ x ∈ signs b, (mapF x).2 = 0 -> domF b = none := by
  intro x hx h
  obtain ⟨k, hk, rfl⟩ := List.getElem_of_mem hx
  exact dom_1 hk h
 have hd2 := fun (h : (signs b).all okM = true) (p : Bytes) (hp : p ∈ pieces (toldF (signs b))) (h2 : wrF p = none) => dom_2 h hp h2
 have hd3 := fun (h : (signs b).all okM = true) (h2 : (pieces (toldF (signs b))).all okP = true) => dom_3 h h2
 obtain ⟨O, hO⟩ := ex_ (domF b)
 rw [<- hO] at hd1 hd2 hd3 ⊢
 clear hO
 have hsl := signs_len _ b (Nat.le_refl _)
 obtain ⟨l, hl⟩ := ex_ (signs b)
 rw [<- hl] at hsg hsl ht hd1 hd2 hd3
 clear hl
 obtain ⟨s, hs⟩ := ex_ (bs b)
 rw [<- hs] at hsg ⊢
 clear hs
 obtain ⟨L, hL⟩ := ex_ (l.length)
 have hLm : L <= 307200000 := by omega
 clear hsl hb
 have HSG := h_ hsg; clear hsg
 have HD1 := h_ hd1; clear hd1
 have HD2 := h_ hd2; clear hd2
 have HD3 := h_ hd3; clear hd3
 have HL := h_ hL; clear hL
 have HT := h_ ht; clear ht
 have HEV := h_ hE; clear hE
 go_enter Tryz.func211, Tryz.ntmps211
 go_wp2_with fail
 refine (HSG.out _ ((Below.refl _ _).alloc (Nat.le_refl _) _)).mono ?_
 rintro e w2 ⟨v2, rfl, ho2, hb2⟩
 have hbld := (Bld.fresh w).below hb2
 have HB2 := h_ (((Below.refl _ w).alloc (Nat.le_refl _) _).trans (hb2.mono (by simp))); clear hb2
 have hat : ∀ k (hk : k < l.length), ∃ gs c, v2 = .slice (some ⟨gs, 0, none⟩) L c ∧ w.heap.size < gs ∧ gs < w2.heap.size ∧ w2.cell? ⟨gs, 0 + k, none⟩ = some (.int .i64 l[k]) := by
  intro k hk
  rcases own_where ho2 with ⟨_, h0⟩ | ⟨gs, c, h1, h2, h3, h4⟩
  ·have : (I64s l).length = 0 := by rw [h0]; rfl
   rw [List.length_map] at this; omega
  ·rw [show (I64s l).length = L by rw [List.length_map, HL.out]] at h1
   refine ⟨gs, c, h1, by simp at h2; omega, h3, ?_⟩
   have := h4 k (by rw [List.length_map]; exact hk)
   simpa using this
 obtain ⟨av, cv, hv⟩ := slice_val (Sl.of_own ho2)
 rw [show (I64s l).length = L by rw [List.length_map, HL.out]] at hv
 subst hv
 clear ho2
 have HAT := h_ hat; clear hat
 have HBL := h_ hbld; clear hbld
 have hz2 : w.heap.size < w2.heap.size := HBL.out.lt
 go_wp2_with fail
 go_loopw [17] (fun iv wr => ∃ (k : Nat) (g : Option Nat), k <= L ∧ iv = .int .i64 k ∧ (l.take k).all okM = true ∧ Bld w.heap.size g (toldF (l.take k)) wr ∧ (∀ j, g = some j -> w2.heap.size <= j) ∧ Fr (fun j => j = w.heap.size) w2 wr) (fun i _ => L - (intOf i).toNat)
 case atStart => exact ⟨0, none, by omega, by simp, by simp, by simpa [toldF] using HBL.out, by simp, Fr.of_below (Below.refl _ _)⟩
 case round =>
  obtain ⟨k, g, hk, rfl, hall, hbd, hg, hfr⟩ := hrel
  have hbw : Below w.heap.size w wr := HB2.out.trans (hfr.below (by omega) (fun j hj => by omega))
  have HA := h_ hall; clear hall
  have HBD := h_ hbd; clear hbd
  have HG := h_ hg; clear hg
  have HF := h_ hfr; clear hfr
  have HBW := h_ hbw; clear hbw
  by_cases hlt : k < L
  ·have hx : k < l.length := by have := HL.out; omega
   obtain ⟨gs, c', hav, hgs1, hgs2, hc2⟩ := HAT.out k hx
   obtain ⟨rfl, rfl⟩ : av = some ⟨gs, 0, none⟩ ∧ cv = c' := by injection hav with e1 e2 e3; exact ⟨e1, e3⟩
   have hcell : wr.cell? ⟨gs, 0 + k, none⟩ = some (.int .i64 l[k]) := (World.cell?_of_block (w := w2) (a := ⟨gs, 0 + k, none⟩) (HF.out.block gs hgs2 (by omega))).trans hc2
   rw [Nat.zero_add] at hcell
   clear hav hc2
   have hts := told_snoc hx
   have hok := fun h => all_snoc3 (f := okM) hx HA.out h
   have hbd1 := HD1.out _ (List.getElem_mem hx)
   have hml := map_len l[k]
   have htl := told_len (l.take k)
   rw [List.length_take] at htl
   obtain ⟨x, hxx⟩ := ex_ (l[k])
   rw [<- hxx] at hcell hts hok hbd1 hml
   clear hxx
   have hma := fun W => map_any x W
   have hok2 : (mapF x).2 ≠ 0 -> (l.take (k + 1)).all okM = true := fun h => hok (decide_eq_true h)
   clear hok
   obtain ⟨K, hK⟩ := ex_ ((mapF x).2)
   obtain ⟨B, hB⟩ := ex_ ((mapF x).1)
   rw [<- hB] at hts hml
   rw [<- hK] at hbd1 hok2
   rw [<- hK, <- hB] at hma
   clear hK hB
   have HMA := h_ hma; clear hma
   have HTS := h_ hts; clear hts
   have HLN : (toldF (l.take k)).length + B.length <= 1099511627776 := by omega
   have HLN2 := h_ HLN; clear HLN htl hml
   by_cases hK0 : K = 0
   ·have hf := hbd1 hK0
    have HO := h_ hf; clear hf hbd1 hok2
    subst hK0
    go_wp2_with fail
    refine (HMA.out _).mono ?_
    rintro e w3 ⟨rfl, hb3⟩
    have HB3 := h_ (HBW.out.trans (hb3.mono HBW.out.size)); clear hb3
    go_wp2_with fail
    go_ret2
    exact RetE.none HO.out HB3.out
   ·have q0 : (K == 0) = false := by simp [hK0]
    have hall2 := hok2 hK0
    have HA2 := h_ hall2; clear hall2 hok2 hbd1 hK0
    go_wp2_with fail
    refine (HMA.out _).mono ?_
    rintro e w3 ⟨rfl, hb3⟩
    have HB3 := h_ hb3; clear hb3
    go_wp2_with fail
    refine (writeString_any B (HBD.out.below HB3.out) HLN2.out).mono ?_
    rintro e w4 ⟨rfl, hrb⟩
    have HRB := h_ hrb; clear hrb
    go_wp2_with fail
    obtain ⟨g', a1, a2, a3⟩ := HRB.out
    have HFR := h_ (fr_step HF.out HB3.out a3 HG.out)
    have HG' : ∀ j, g' = some j -> w2.heap.size <= j := by
     intro j hj
     rcases a2 with h | ⟨j', h, h'⟩
     ·exact HG.out j (h ▸ hj)
     ·rw [h] at hj; injection hj with hj
      have := HF.out.size
      have := HB3.out.size
      omega
    have HG2 := h_ HG'; clear HG' a2 a3
    have HA1 := h_ a1; clear a1
    go_roundw
    case rel => exact ⟨k + 1, g', by omega, by simp, HA2.out, by rw [HTS.out]; exact HA1.out, HG2.out, HFR.out⟩
    case measure => simp [intOf]; omega
  ·obtain rfl : L = k := by omega
   have hall := HA.out
   have hbd := HBD.out
   rw [List.take_of_length_le (by have := HL.out; omega)] at hall hbd
   have hd2 := HD2.out hall
   have hd3 := HD3.out hall
   have ht := HT.out
   obtain ⟨t, htt⟩ := ex_ (toldF l)
   rw [<- htt] at hd2 hd3 ht hbd
   clear htt hall
   have hstr := bstring_any w.heap.size hbd (Nat.le_refl _) (fun j hj => by have := HG.out j hj; omega)
   have HSTR := h_ hstr; clear hstr hbd
   have hpn := pieces_num t
   have hpl := fun p (hp : p ∈ pieces t) => pieces_len hp
   have hsp := fun W (h : Env W) => split_dot t W h (by omega)
   obtain ⟨ps, hps⟩ := ex_ (pieces t)
   have hjo : (joinD (ps.map outP)).length <= 1000000000000 := by rw [hps]; have := join_out_len t; omega
   have HJO := h_ hjo; clear hjo
   rw [<- hps] at hd2 hd3 hpn hpl hsp
   clear hps
   obtain ⟨N, hN⟩ := ex_ (ps.length)
   rw [<- hN] at hpn hsp
   have hNm : N <= 102400001 := by omega
   clear hpn
   have HN := h_ hN; clear hN
   have HSP := h_ hsp; clear hsp
   have HP2 := h_ hd2; clear hd2
   have HP3 := h_ hd3; clear hd3
   have hpl2 : ∀ p ∈ ps, p.length <= 102400000 := fun p hp => by have := hpl p hp; omega
   have HPL := h_ hpl2; clear hpl2 hpl ht
   go_wp2_with fail
   refine (HSTR.out).mono ?_
   rintro e w5 ⟨rfl, hb5⟩
   have HB5 := h_ (HBW.out.trans hb5); clear hb5
   go_wp2_with fail
   refine (HSP.out _ (HEV.out.below HB5.out)).mono ?_
   rintro e w6 ⟨rfl, hw6⟩
   have hown : w6.ownsRow w.heap.size 9 1 (.slice (some ⟨w5.heap.size, 0, none⟩) N N) N (Strs ps) := by
    rw [hw6, HN.out]
    exact own_strs w5 w.heap.size _ ps HB5.out.size (by have := HN.out; omega)
   have hb6 : Below w.heap.size w w6 := by rw [hw6]; exact HB5.out.alloc HB5.out.size _
   have hgS : w.heap.size <= w5.heap.size := HB5.out.size
   clear hw6
   obtain ⟨gS, hgg⟩ := ex_ (w5.heap.size)
   rw [<- hgg] at hown hgS ⊢
   clear hgg
   have HOW := h_ hown; clear hown
   have HB6 := h_ hb6; clear hb6
   clear HBW HB5 HF HG HBD HA HSTR
   go_wp2_with fail
   go_loopw [35] (fun iv wr => ∃ (k : Nat), k <= N ∧ iv = .int .i64 k ∧ (ps.take k).all okP = true ∧ wr.ownsRow w.heap.size 9 1 (.slice (some ⟨gS, 0, none⟩) N N) N (Strs ((ps.take k).map outP ++ ps.drop k)) ∧ Below w.heap.size w wr) (fun i _ => N - (intOf i).toNat)
   case atStart => exact ⟨0, by omega, by simp, by simp, by simpa using HOW.out, HB6.out⟩
   case round =>
    obtain ⟨k, hk, rfl, hall, hown, hbl⟩ := hrel
    have HA := h_ hall; clear hall
    have HO := h_ hown; clear hown
    have HB := h_ hbl; clear hbl
    by_cases hlt2 : k < N
    ·have hx : k < ps.length := by have := HN.out; omega
     have hcell : wr.cell? ⟨gS, k, none⟩ = some (.string (bs ps[k])) := by
      have := HO.out.cells (g := gS) rfl k (.string (bs ps[k])) (by rw [List.getElem?_map, mid_at hx]; rfl)
      rwa [addr_add, Nat.zero_add] at this
     have hmem : ps[k] ∈ ps := List.getElem_mem hx
     have hwt := written_any ps[k] wr (HPL.out _ hmem) (HEV.out.below HB.out).1
     have hbd := HP2.out ps[k] hmem
     have hok : okP ps[k] = true -> (ps.take (k + 1)).all okP = true := fun h => by
      rw [List.take_succ_eq_append_getElem hx, List.all_append, HA.out]; simp [h]
     have hset := fun y h => mid_set (f := outP) hx (y := y) h
     obtain ⟨p, hp⟩ := ex_ (ps[k])
     rw [<- hp] at hcell hwt hbd hok hset
     clear hp hmem hx
     have HWT := h_ hwt; clear hwt
     have HBAD := h_ hbd; clear hbd
     have HOK := h_ hok; clear hok
     have HSET := h_ hset; clear hset
     cases hw : wrF p with
     | none =>
      have HNO := h_ (HBAD.out hw)
      rw [hw] at HWT
      clear hw
      go_wp2_with fail
      refine (HWT.out).mono ?_
      rintro e w7 ⟨x, rfl, _, hb7⟩
      have HB7 := h_ (HB.out.trans (hb7.mono HB.out.size)); clear hb7
      go_wp2_with fail
      go_ret2
      exact RetE.none HNO.out HB7.out
     | some y =>
      have hy1 : outP p = y := by unfold outP; rw [hw]; rfl
      have hy2 : okP p = true := by unfold okP; rw [hw]; rfl
      have HY1 := h_ (HSET.out y hy1)
      have HY2 := h_ (HOK.out hy2)
      rw [hw] at HWT
      clear hw hy1 hy2
      go_wp2_with fail
      refine (HWT.out).mono ?_
      rintro e w7 ⟨x, rfl, hx, hb7⟩
      obtain rfl : x = y := hx y rfl
      clear hx
      have ho7 := own_below HO.out hb7
      have HB7 := h_ (HB.out.trans (hb7.mono HB.out.size))
      have hcell7 : w7.cell? ⟨gS, k, none⟩ = some (.string (bs p)) := by
       rw [hb7.cell (p := ⟨gS, k, none⟩) (block_lt_of_cell hcell)]; exact hcell
      have hfz7 := ho7.frozenAt k
      have hst := ho7.stored k (.string (bs x))
      have hset2 : (Strs ((ps.take k).map outP ++ ps.drop k)).set k (.string (bs x)) = Strs ((ps.take (k + 1)).map outP ++ ps.drop (k + 1)) := by
       rw [<- HY1.out]
       exact (List.map_set (f := fun b => Value.string (bs b))).symm
      have HST := h_ (hset2 ▸ hst.1); clear hst hset2 ho7 hb7
      go_wp2_with fail
      go_roundw
      case rel => exact ⟨k + 1, by omega, by simp, HY2.out, HST.out, HB7.out.setCell hgS _⟩
      case measure => simp [intOf]; omega
    ·obtain rfl : N = k := by omega
     have hall := HA.out
     have hown := HO.out
     rw [List.take_of_length_le (by have := HN.out; omega)] at hall hown
     rw [List.drop_of_length_le (by have := HN.out; omega), List.append_nil] at hown
     have hno := HP3.out hall
     have HNO := h_ hno; clear hno hall
     have hml : (ps.map outP).length = N := by rw [List.length_map, HN.out]
     have hcs : ∀ j (hj : j < (ps.map outP).length), wr.cell? ⟨gS, 0 + j, none⟩ = some (.string (bs (ps.map outP)[j])) := by
      intro j hj
      have := hown.cells (g := gS) rfl j (.string (bs (ps.map outP)[j])) (by rw [List.getElem?_map, List.getElem?_eq_getElem hj]; rfl)
      rwa [addr_add] at this
     have hglt := (hown.lt gS rfl).2
     have hjn := join_dots gS N N (ps.map outP) wr hcs hglt hml.symm (Nat.le_refl _) (by omega) HJO.out
     have HJN := h_ hjn; clear hjn hcs hml hown
     go_wp2_with fail
     refine (HJN.out).mono ?_
     rintro e w8 ⟨rfl, hb8⟩
     have HB8 := h_ (HB.out.trans (hb8.mono HB.out.size)); clear hb8
     go_wp2_with fail
     go_ret2
     exact RetE.some HNO.out rfl HB8.out

theorem encR_len2 (l : List Int) : (encR l).1.length <= 1 + 8 * l.length := by
 unfold encR
 split
 ·simp
 ·next h =>
  have h1 : l.all sg = true := by
   by_cases h2 : l.all sg = true
   ·exact h2
   ·exact absurd (.inr h2) h
  obtain ⟨W, e, _, hw, _⟩ := encF_parts (List.all_eq_true.mp h1) (by omega)
  have hb := bas_le l
  have hh : (hyp (bas l)).length <= 1 := by unfold hyp; split <;> simp
  simp only
  rw [e, List.length_append, List.length_append]
  omega
theorem out_len2 (p : Bytes) : (outP p).length <= 5 + 8 * p.length := by
 have h2 := encR_len2 (signs p)
 have h3 := signs_len _ p (Nat.le_refl _)
 unfold outP wrF
 split
 ·split
  ·split
   ·split
    ·rw [Option.getD_some]; omega
    ·simp
   ·simp
  ·simp
 ·split
  ·rw [Option.getD_some]; omega
  ·split
   ·split
    ·rw [Option.getD_some, List.length_append]
     have : pre4.length = 4 := rfl
     omega
    ·simp
   ·simp
theorem joinD_length (x : Bytes) (r : List Bytes) : (joinD (x :: r)).length = Lib.lens (x :: r) + r.length := by
 unfold joinD
 have e1 : ([46] : List UInt8).length = 1 := rfl
 have e : Lib.lens (x :: r) = x.length + Lib.lens r := by simp [Lib.lens]
 rw [Lib.join_cons, List.length_append, Lib.joinTail_length, e1, e]
 omega
theorem lens_out : ∀ ps : List Bytes, Lib.lens (ps.map outP) <= 5 * ps.length + 8 * Lib.lens ps
 | [] => by simp [Lib.lens]
 | p :: ps => by
  have ih := lens_out ps
  have hp := out_len2 p
  have e1 : Lib.lens ((p :: ps).map outP) = (outP p).length + Lib.lens (ps.map outP) := by simp [Lib.lens]
  have e2 : Lib.lens (p :: ps) = p.length + Lib.lens ps := by simp [Lib.lens]
  rw [e1, e2, List.length_cons]
  omega
theorem dom_len2 {b t : Bytes} (h : domF b = some t) : t.length <= 8 * (toldF (signs b)).length + 8 := by
 rw [dom_signs] at h
 unfold domS at h
 split at h
 ·split at h
  ·have ht := Option.some.inj h
   obtain ⟨p, ps, hp⟩ := cutD_ne (toldF (signs b))
   have hj := join_cut (toldF (signs b))
   have hl := lens_out (p :: ps)
   have hl2 := congrArg List.length hj
   rw [hp, joinD_length] at hl2
   rw [<- ht, hp, List.map_cons, joinD_length, List.length_map]
   rw [List.map_cons, List.length_cons] at hl
   omega
  ·cases h
 ·cases h
end Go.Proofs.YtpckaimpjccjhaaGreatDoor
