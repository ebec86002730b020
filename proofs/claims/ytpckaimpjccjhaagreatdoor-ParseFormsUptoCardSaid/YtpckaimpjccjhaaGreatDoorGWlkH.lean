/- WlkH WlkI WlkJ WlkK WlkL WlkM: joined. -/
import Derived.WalkSmall
import Derived.Test.YtpckaimpjccjhaaGreatDoorGUrlB
import Derived.Test.YtpckaimpjccjhaaGreatDoorShelf2
import Derived.Test.YtpckaimpjccjhaaGreatDoorGHlwA
import Derived.Test.YtpckaimpjccjhaaGreatDoorGReg
set_option maxHeartbeats 40000000
namespace Go.Proofs.YtpckaimpjccjhaaGreatDoor
open Go.RowKit
set_option maxRecDepth 10000
theorem strs_getD {l : List Bytes} {j : Nat} (hj : j < l.length) : (l.map bs).getD j ByteArray.empty = bs l[j] := by simp [List.getD, hj]
theorem clone_any (l : List Bytes) (v : Value) (w : World) (h : Sl w.heap.size w v (l.map S)) (hl : l.length <= 1024000000) : Calls Tryz.prog 60 #[v] w (RetRow w 9 (Strs l)) := by
 obtain ⟨c, h1, h2, h⟩ := h
 rcases h with ⟨hn, a, rfl⟩ | ⟨b, o, hb, rfl, ha⟩
 ·obtain rfl : l = [] := by simpa using hn
  cases a with
  | none =>
   refine (Any.slices_Clone_string_nil Tryz.laysClone 0 c w).mono ?_
   rintro e w' ⟨rfl, rfl⟩
   exact ⟨_, rfl, World.ownsRow_nil _ _ _ _, Below.refl _ _⟩
  | some a =>
   refine (Any.slices_Clone_string_zero Tryz.laysClone a c w).mono ?_
   rintro e w' ⟨v', rfl, h1, _, h3⟩
   exact ⟨_, rfl, h1, h3⟩
 ·refine (Any.slices_Clone_string Tryz.laysClone b o (l.map S).length c (l.map bs) w (by simp) (by simp; omega) (fun j hj => by
   rw [List.length_map] at hj
   rw [ha j (by simpa using hj), strs_getD hj, List.getElem_map])).mono ?_
  rintro e w' ⟨v', rfl, h1, _, h3⟩
  refine ⟨_, rfl, ?_, h3⟩
  have e1 : ((l.map bs).take (l.map S).length).map Value.string = Strs l := by
   rw [List.take_of_length_le (by simp), List.map_map]
   rfl
  rw [e1, List.length_map] at h1
  rw [List.length_map]
  exact h1
theorem equal_any (l m : List Bytes) (v u : Value) (w : World) {B C : Nat} (h : Sl B w v (l.map S)) (k : Sl C w u (m.map S)) (hl : l.length <= 1024000000) (hm : m.length <= 1024000000) : Calls Tryz.prog 53 #[v, u] w fun e w' => e = .returned (.bool (decide (l = m))) ∧ Below w.heap.size w w' := by
 obtain ⟨c, h1, h2, h⟩ := h
 obtain ⟨d, k1, k2, k⟩ := k
 rcases h with ⟨hn, a, rfl⟩ | ⟨b, o, hb, rfl, ha⟩
 ·obtain rfl : l = [] := by simpa using hn
  have hu : ∃ a2, u = .slice a2 m.length d := by
   rcases k with ⟨hn, a2, rfl⟩ | ⟨b2, o2, hb, rfl, ha⟩
   ·obtain rfl : m = [] := by simpa using hn
    exact ⟨a2, rfl⟩
   ·exact ⟨_, by rw [List.length_map]⟩
  obtain ⟨a2, rfl⟩ := hu
  refine (Any.slices_Equal_string_empty Tryz.laysEqS a a2 c m.length d w (by omega)).mono ?_
  rintro e w' ⟨rfl, rfl⟩
  refine ⟨?_, Below.refl _ _⟩
  have : decide (m.length = 0) = decide (([] : List Bytes) = m) := by
   rw [decide_eq_decide, List.length_eq_zero_iff]
   exact eq_comm
  rw [this]
 ·rcases k with ⟨hn, a2, rfl⟩ | ⟨b2, o2, hb2, rfl, ha2⟩
  ·obtain rfl : m = [] := by simpa using hn
   by_cases h0 : l = []
   ·subst h0
    refine (Any.slices_Equal_string_empty Tryz.laysEqS (some ⟨b, o, none⟩) a2 c 0 d w (by omega)).mono ?_
    rintro e w' ⟨rfl, rfl⟩
    exact ⟨rfl, Below.refl _ _⟩
   ·have hpos : 0 < l.length := List.length_pos_iff.mpr h0
    rw [List.length_map, decide_eq_false h0]
    obtain ⟨n, hn⟩ := ex_ (l.length)
    rw [<- hn] at hpos hl ⊢
    have hne : ((n : Int) != 0) = true := by
     have : (n : Int) ≠ 0 := by omega
     simpa using this
    clear hn h0 ha h1
    go_enter Tryz.func53, Tryz.ntmps53
    go_wp2_with fail
    go_ret
    exact ⟨rfl, Below.refl _ _⟩
  ·refine (Any.slices_Equal_string Tryz.laysEqS b o (l.map S).length c b2 o2 (m.map S).length d (l.map bs) (m.map bs) w (by simp) (by simp) (by simp; omega) (by simp; omega) (fun j hj => by
    rw [List.length_map] at hj
    rw [ha j (by simpa using hj), strs_getD hj, List.getElem_map]) (fun j hj => by
    rw [List.length_map] at hj
    rw [ha2 j (by simpa using hj), strs_getD hj, List.getElem_map])).mono ?_
   rintro e w' ⟨rfl, q, rfl⟩
   refine ⟨?_, bz_drewN (bz_refl _)⟩
   have inj : ∀ l m : List Bytes, l.map bs = m.map bs -> l = m := by
    intro l
    induction l with
    | nil => intro m h; cases m with | nil => rfl | cons _ _ => cases h
    | cons x r ih =>
     intro m h
     cases m with
     | nil => cases h
     | cons y s =>
      injection h with h1 h2
      rw [bs_inj h1, ih s h2]
   have : decide ((l.map bs).take (l.map S).length = (m.map bs).take (m.map S).length) = decide (l = m) := by
    rw [List.take_of_length_le (by simp), List.take_of_length_le (by simp), decide_eq_decide]
    exact ⟨inj l m, fun h => by rw [h]⟩
   rw [this]
theorem short_two {sch : Bytes} {p : List Bytes} {k : Nat} (h : p.length = k + 2) : shortF sch p = p.take (k + 1) := by
 match p, h with
 | a :: b :: r, h =>
  show (a :: b :: r).dropLast = _
  rw [List.dropLast_eq_take, h]
  rfl
theorem short_one (sch x : Bytes) : shortF sch [x] = if sch = fileB ∧ normF x = true then [x] else [] := rfl
theorem own_cell {w : World} {base e g n cap : Nat} {o : List Bytes} (h : w.ownsRow base e 1 (.slice (some ⟨g, 0, none⟩) n cap) n (Strs o)) {j : Nat} (hj : j < o.length) : w.cell? ⟨g, j, none⟩ = some (.string (bs o[j])) := by
 have := h.cells (g := g) rfl j (.string (bs o[j])) (by simp [hj])
 rw [addr_add, Nat.zero_add] at this
 exact this
theorem up_any (sch : Bytes) (o : List Bytes) (v : Value) (base : Nat) (w : World) (hown : w.ownsRow base 9 1 v o.length (Strs o)) (hl : o.length <= 1024000000) (hx : ∀ x ∈ o, x.length <= 1024000000) :
  Calls Tryz.prog 183 #[.string (bs sch), v] w fun e w' => (∃ v', e = .returned v' ∧ w.ownsRow base 9 1 v' (shortF sch o).length (Strs (shortF sch o))) ∧ w' = w := by
 obtain ⟨i1, hi1, hz1, hz2, hz3⟩ := info_parts str_info
 have hfe := sEq sch [102, 105, 108, 101]
 rw [toList_bs, toList_bs] at hfe
 obtain ⟨c, hc⟩ := ex_ (bs sch)
 have hfe2 : (c.toList == [102, 105, 108, 101]) = decide (sch = [102, 105, 108, 101]) := by rw [hc, toList_bs]; exact hfe
 rw [<- hc]
 clear hc hfe
 rcases hown.2 with ⟨rfl, hn⟩ | ⟨g, cap, cur, rfl, hg, hh, hnc, hcm, hsz, htk⟩
 ·obtain rfl : o = [] := List.eq_nil_of_length_eq_zero hn
  have HO := h_ hown
  clear hown hn hfe2
  go_enter Tryz.func183, Tryz.ntmps183
  go_wp2_with fail
  go_ret
  exact ⟨⟨_, rfl, HO.out⟩, rfl⟩
 ·clear hh hsz htk hg
  match o, hown, hl, hx, hnc with
  | [], hown, hl, hx, hnc =>
   have HO := h_ hown
   clear hown hfe2
   simp only [List.length_nil]
   go_enter Tryz.func183, Tryz.ntmps183
   go_wp2_with fail
   go_ret
   exact ⟨⟨_, rfl, HO.out⟩, rfl⟩
  | [x], hown, hl, hx, hnc =>
   have hso := short_one sch x
   have kc : ∀ W, (Instr.sliceAt 28 (.slice (some ⟨g, 0, none⟩) 1 cap) none (some (.int .i64 0)) none).run Tryz.prog W = .ok (.slice (some ⟨g, 0, none⟩) 0 cap) W := fun W => slice_to Tryz.underlying28 hi1 g 0 1 cap 0 (by omega) W
   have hcell := own_cell hown (j := 0) (by simp)
   have hpop : w.ownsRow base 9 1 (.slice (some ⟨g, 0, none⟩) 0 cap) 0 [] := ownsRow_pop (xs := []) (last := Strs [x]) (n := 0) rfl hown
   have hnm := fun W => normal_any x W (hx x (by simp))
   obtain ⟨R, hR⟩ := ex_ (shortF sch [x])
   rw [<- hR] at hso ⊢
   simp only [List.getElem_cons_zero] at hcell
   obtain ⟨xx, hxx⟩ := ex_ (bs x)
   rw [<- hxx] at hcell hnm
   have HO := h_ hown
   have HP := h_ hpop
   have HNM := h_ hnm
   simp only [List.length_cons, List.length_nil, Nat.zero_add]
   have hw0 : IntKind.i64.wrap ((1 : Int) - 1) = 0 := rfl
   clear hown hpop hnm hxx hR
   by_cases hf : sch = [102, 105, 108, 101]
   ·rw [decide_eq_true hf] at hfe2
    cases hq : normF x with
    | true =>
     rw [hq] at HNM
     rw [if_pos ⟨hf, hq⟩] at hso
     have HS := h_ hso
     clear hso hf hq
     go_enter Tryz.func183, Tryz.ntmps183
     go_wp2_with (first | (go_at_call 58; refine (HNM.out _).mono ?_; rintro e w2 ⟨rfl, hw⟩; subst hw) | fail)
     go_ret
     exact ⟨⟨_, rfl, by rw [HS.out]; exact HO.out⟩, rfl⟩
    | false =>
     rw [hq] at HNM
     rw [if_neg (by simp [hq])] at hso
     have HS := h_ hso
     clear hso hf hq
     go_enter Tryz.func183, Tryz.ntmps183
     go_wp2_with (first | (go_at_call 58; refine (HNM.out _).mono ?_; rintro e w2 ⟨rfl, hw⟩; subst hw) | fail)
     go_ret
     exact ⟨⟨_, rfl, by rw [HS.out]; exact HP.out⟩, rfl⟩
   ·rw [decide_eq_false hf] at hfe2
    rw [if_neg (fun h => hf h.1)] at hso
    have HS := h_ hso
    clear hso hf
    go_enter Tryz.func183, Tryz.ntmps183
    go_wp2_with fail
    go_ret
    exact ⟨⟨_, rfl, by rw [HS.out]; exact HP.out⟩, rfl⟩
  | x :: y :: r, hown, hl, hx, hnc =>
   obtain ⟨k, hk⟩ : ∃ k, (x :: y :: r).length = k + 2 := ⟨r.length, by simp⟩
   have hso := short_two (sch := sch) hk
   have hst : Strs (x :: y :: r) = Strs ((x :: y :: r).take (k + 1)) ++ (Strs (x :: y :: r)).drop (k + 1) := by
    have e : Strs ((x :: y :: r).take (k + 1)) = (Strs (x :: y :: r)).take (k + 1) := List.map_take
    rw [e, List.take_append_drop]
   have htl : ((x :: y :: r).take (k + 1)).length = k + 1 := by rw [List.length_take, hk]; omega
   rw [hst] at hown
   rw [hk] at hown hnc hl ⊢
   have hpop : w.ownsRow base 9 1 (.slice (some ⟨g, 0, none⟩) (k + 1) cap) (k + 1) (Strs ((x :: y :: r).take (k + 1))) := ownsRow_pop (by rw [List.length_map, htl]; omega) hown
   have hsl : shortF sch (x :: y :: r) = (x :: y :: r).take (k + 1) := hso
   rw [hsl, htl]
   generalize Strs ((x :: y :: r).take (k + 1)) = Z at *
   have kc : ∀ W, (Instr.sliceAt 28 (.slice (some ⟨g, 0, none⟩) (k + 2) cap) none (some (.int .i64 ((k + 1 : Nat) : Int))) none).run Tryz.prog W = .ok (.slice (some ⟨g, 0, none⟩) (k + 1) cap) W := fun W => slice_to Tryz.underlying28 hi1 g 0 (k + 2) cap (k + 1) (by omega) W
   obtain ⟨K, hK⟩ := ex_ (k + 1)
   obtain ⟨N, hN⟩ := ex_ (k + 2)
   rw [<- hK, <- hN] at kc
   rw [<- hK] at hpop
   rw [<- hN, <- hK]
   have hw0 : IntKind.i64.wrap ((N : Int) - 1) = (K : Int) := by rw [show (N : Int) - 1 = (K : Int) by omega]; exact IntWalk.i64_in _ (by omega)
   have h0 : ((N : Int) == 0) = false := by
    have : (N : Int) ≠ 0 := by omega
    simpa using this
   have h1 : ((N : Int) == 1) = false := by
    have : (N : Int) ≠ 1 := by omega
    simpa using this
   have HP := h_ hpop
   clear hpop hown hk hso hst htl hsl hK hN hnc hx
   obtain ⟨b, hb⟩ := ex_ (decide (sch = [102, 105, 108, 101]))
   rw [<- hb] at hfe2
   clear hb
   cases b <;>
   ·go_enter Tryz.func183, Tryz.ntmps183
    go_wp2_with fail
    go_ret
    exact ⟨⟨_, rfl, HP.out⟩, rfl⟩

theorem appN {ops : Array Oper} {rest : List Oper} {o : Oper} {a : Act} {Q : Exit -> Act -> World -> Prop} {w : World} (hgd : o.guard = none) (s x : Operand)
  (ho : o.op = .call { callee := .builtin .append, args := #[s, x], argTypes := #[28, 28] }) (hs : a.eval s = .slice none 0 0)
  (ad : Addr) (m c : Nat) (l : List Bytes) (hx : a.eval x = .slice (some ad) m c) (hl : l.length = m) (hm : m <= 1024000000) (hc : ∀ j (hj : j < l.length), w.cell? (ad.add j) = some (.string (bs l[j])))
  (h : ∀ v' w', w'.ownsRow w.heap.size 9 1 v' m (Strs l) -> Below w.heap.size w w' -> wpList Tryz.prog ops Q rest (a.put o.dst v') w') : wpList Tryz.prog ops Q (o :: rest) a w := by
 obtain ⟨i1, hi1, hz1, hz2, hz3⟩ := info_parts str_info
 refine wpList_append_own _ hgd s x 28 ho w.heap.size 9 i1 (.string ⟨#[]⟩) 1 16 Tryz.underlying28 hi1 hz1 hz2 hz3 (by decide) (by decide) (.slice none 0 0) 0 [] hs (World.ownsRow_nil _ _ _ _) ad m c (Strs l) hx ?_ ?_ ?_ ?_ ?_ (Nat.le_refl _) ?_
 ·rw [List.length_map, hl]; omega
 ·intro j u hj
  have hjl : j < l.length := by
   have := (List.getElem?_eq_some_iff.1 hj).1
   simpa using this
  rw [hc j hjl]
  rw [List.getElem?_map, List.getElem?_eq_getElem hjl] at hj
  exact hj
 ·intro u hu
  obtain ⟨y, _, rfl⟩ := List.mem_map.1 hu
  rfl
 ·unfold maxLen; omega
 ·omega
 ·intro v' w' ho' hg _
  refine h v' w' ?_ ⟨hg.os, hg.tape, hg.output, hg.size, fun k hk => hg.block k hk (by simp [Value.ownBlock])⟩
  simpa using ho'
theorem slice_to0 {P : Program} {t e : TypeId} {i : TypeInfo} (ht : P.underlying t = some (.slice e)) (hi : P.info? e = some i) (ad : Addr) (n c : Nat) :
  ∃ ad2, ∀ W, (Instr.sliceAt t (.slice (some ad) n c) none (some (.int .i64 0)) none).run P W = .ok (.slice (some ad2) 0 c) W := by
 have he : P.elem t = e := by simp [Program.elem, ht]
 have ht' : P.underlying t = some (.slice (P.elem t)) := by rw [he]; exact ht
 by_cases hc : c = 0
 ·refine ⟨ad, fun W => ?_⟩
  have := run_slice_h W t (some ad) n c ht' .i64 0 (by omega) (by omega)
  rw [run_sliceAt_slice W t _ _ _ _ ht', this]
  simp [sizeOf, typeInfo, he, hi, sliced, hc]
 ·refine ⟨ad.add 0, fun W => ?_⟩
  have := run_slice_h W t (some ad) n c ht' .i64 0 (by omega) (by omega)
  rw [run_sliceAt_slice W t _ _ _ _ ht', this]
  simp [sizeOf, typeInfo, he, hi, sliced, hc]
theorem shorten_any (sch : Bytes) (p : List Bytes) (v : Value) (w : World) (h : Sl w.heap.size w v (p.map S)) (hl : p.length <= 1024000000) (hx : ∀ x ∈ p, x.length <= 1024000000) :
  Calls Tryz.prog 26 #[.string (bs sch), v] w (RetRow w 9 (Strs (shortF sch p))) := by
 obtain ⟨i1, hi1, hz1, hz2, hz3⟩ := info_parts str_info
 have hfe := sEq sch [102, 105, 108, 101]
 rw [toList_bs, toList_bs] at hfe
 obtain ⟨c, hc⟩ := ex_ (bs sch)
 have hfe2 : (c.toList == [102, 105, 108, 101]) = decide (sch = [102, 105, 108, 101]) := by rw [hc, toList_bs]; exact hfe
 rw [<- hc]
 clear hc hfe
 obtain ⟨cap, h1, h2, h⟩ := h
 rcases h with ⟨hn, a, rfl⟩ | ⟨b, o, hb, rfl, ha⟩
 ·obtain rfl : p = [] := by simpa using hn
  clear hfe2 hx hl
  cases a with
  | none =>
   go_enter Tryz.func26, Tryz.ntmps26
   go_wp2_with fail
   go_ret
   exact ⟨_, rfl, World.ownsRow_nil _ _ _ _, Below.refl _ _⟩
  | some ad =>
   obtain ⟨ad2, kc⟩ := slice_to0 (P := Tryz.prog) Tryz.underlying28 hi1 ad 0 cap
   go_enter Tryz.func26, Tryz.ntmps26
   go_wp2_with (first
    | (at_builtin; refine appN rfl (.const (.slice none 0 0)) (.tmp 29) rfl rfl ad2 0 cap [] rfl rfl (by omega) (fun j hj => absurd hj (Nat.not_lt_zero j)) ?_; intro v2 w2 hown2 hb2; have HO2 := h_ hown2; clear hown2; have HB2 := h_ hb2; clear hb2)
    | fail)
   go_ret
   exact ⟨_, rfl, HO2.out, HB2.out⟩
 ·rw [List.length_map] at *
  have hce : ∀ j (hj : j < p.length), w.cell? ⟨b, o + j, none⟩ = some (.string (bs p[j])) := fun j hj => by
   rw [ha j (by simpa using hj), List.getElem_map]
  clear ha
  match p, hl, hx, hce, h1 with
  | [], hl, hx, hce, h1 =>
   have kc := fun W => slice_to (P := Tryz.prog) Tryz.underlying28 hi1 b o 0 cap 0 (by omega) W
   clear hce hx hfe2
   simp only [List.length_nil]
   go_enter Tryz.func26, Tryz.ntmps26
   go_wp2_with (first
    | (at_builtin; refine appN rfl (.const (.slice none 0 0)) (.tmp 29) rfl rfl ⟨b, o, none⟩ 0 cap [] rfl rfl (by omega) (fun j hj => absurd hj (Nat.not_lt_zero j)) ?_; intro v2 w2 hown2 hb2; have HO2 := h_ hown2; clear hown2; have HB2 := h_ hb2; clear hb2)
    | fail)
   go_ret
   exact ⟨_, rfl, HO2.out, HB2.out⟩
  | [x], hl, hx, hce, h1 =>
   have hso := short_one sch x
   have kc : ∀ W, (Instr.sliceAt 28 (.slice (some ⟨b, o, none⟩) 1 cap) none (some (.int .i64 0)) none).run Tryz.prog W = .ok (.slice (some ⟨b, o, none⟩) 0 cap) W := fun W => slice_to Tryz.underlying28 hi1 b o 1 cap 0 (by omega) W
   have kc1 : ∀ W, (Instr.sliceAt 28 (.slice (some ⟨b, o, none⟩) 1 cap) none (some (.int .i64 1)) none).run Tryz.prog W = .ok (.slice (some ⟨b, o, none⟩) 1 cap) W := fun W => slice_to Tryz.underlying28 hi1 b o 1 cap 1 h1 W
   have hcell := hce 0 (by simp)
   rw [Nat.add_zero] at hcell
   have hnm := fun W => normal_any x W (hx x (by simp))
   obtain ⟨R, hR⟩ := ex_ (shortF sch [x])
   rw [<- hR] at hso ⊢
   simp only [List.getElem_cons_zero] at hcell
   have HCE := h_ (show ∀ j (hj : j < [x].length), w.cell? ((⟨b, o, none⟩ : Addr).add j) = some (.string (bs [x][j])) from fun j hj => by rw [addr_add]; exact hce j hj)
   obtain ⟨xx, hxx⟩ := ex_ (bs x)
   rw [<- hxx] at hcell hnm
   have HNM := h_ hnm
   simp only [List.length_cons, List.length_nil, Nat.zero_add]
   have hw0 : IntKind.i64.wrap ((1 : Int) - 1) = 0 := rfl
   clear hnm hxx hR hce hx
   by_cases hf : sch = [102, 105, 108, 101]
   ·rw [decide_eq_true hf] at hfe2
    cases hq : normF x with
    | true =>
     rw [hq] at HNM
     rw [if_pos ⟨hf, hq⟩] at hso
     have HS := h_ hso
     clear hso hf hq
     go_enter Tryz.func26, Tryz.ntmps26
     go_wp2_with (first
      | (go_at_call 58; refine (HNM.out _).mono ?_; rintro e w2 ⟨rfl, hw⟩; subst hw)
      | (at_builtin; refine appN rfl (.const (.slice none 0 0)) (.tmp 29) rfl rfl ⟨b, o, none⟩ 1 cap [x] rfl rfl (by omega) HCE.out ?_; intro v2 w3 hown2 hb2; have HO2 := h_ hown2; clear hown2; have HB2 := h_ hb2; clear hb2)
      | fail)
     go_ret
     exact ⟨_, rfl, by rw [HS.out]; exact HO2.out, HB2.out⟩
    | false =>
     rw [hq] at HNM
     rw [if_neg (by simp [hq])] at hso
     have HS := h_ hso
     clear hso hf hq
     go_enter Tryz.func26, Tryz.ntmps26
     go_wp2_with (first
      | (go_at_call 58; refine (HNM.out _).mono ?_; rintro e w2 ⟨rfl, hw⟩; subst hw)
      | (at_builtin; refine appN rfl (.const (.slice none 0 0)) (.tmp 29) rfl rfl ⟨b, o, none⟩ 0 cap [] rfl rfl (by omega) (fun j hj => absurd hj (Nat.not_lt_zero j)) ?_; intro v2 w3 hown2 hb2; have HO2 := h_ hown2; clear hown2; have HB2 := h_ hb2; clear hb2)
      | fail)
     go_ret
     exact ⟨_, rfl, by rw [HS.out]; exact HO2.out, HB2.out⟩
   ·rw [decide_eq_false hf] at hfe2
    rw [if_neg (fun h => hf h.1)] at hso
    have HS := h_ hso
    clear hso hf
    go_enter Tryz.func26, Tryz.ntmps26
    go_wp2_with (first
     | (at_builtin; refine appN rfl (.const (.slice none 0 0)) (.tmp 29) rfl rfl ⟨b, o, none⟩ 0 cap [] rfl rfl (by omega) (fun j hj => absurd hj (Nat.not_lt_zero j)) ?_; intro v2 w3 hown2 hb2; have HO2 := h_ hown2; clear hown2; have HB2 := h_ hb2; clear hb2)
     | fail)
    go_ret
    exact ⟨_, rfl, by rw [HS.out]; exact HO2.out, HB2.out⟩
  | x :: y :: r, hl, hx, hce, h1 =>
   obtain ⟨k, hk⟩ : ∃ k, (x :: y :: r).length = k + 2 := ⟨r.length, by simp⟩
   have hsl : shortF sch (x :: y :: r) = (x :: y :: r).take (k + 1) := short_two (sch := sch) hk
   have htl : ((x :: y :: r).take (k + 1)).length = k + 1 := by rw [List.length_take, hk]; omega
   have HCE := h_ (show ∀ j (hj : j < ((x :: y :: r).take (k + 1)).length), w.cell? ((⟨b, o, none⟩ : Addr).add j) = some (.string (bs ((x :: y :: r).take (k + 1))[j])) from fun j hj => by
    rw [addr_add, hce j (by rw [htl] at hj; omega), List.getElem_take])
   rw [hsl]
   rw [hk] at h1 hl ⊢
   have hkm : k + 1 <= 1024000000 := by omega
   generalize (x :: y :: r).take (k + 1) = Z at *
   have kc : ∀ W, (Instr.sliceAt 28 (.slice (some ⟨b, o, none⟩) (k + 2) cap) none (some (.int .i64 ((k + 1 : Nat) : Int))) none).run Tryz.prog W = .ok (.slice (some ⟨b, o, none⟩) (k + 1) cap) W := fun W => slice_to Tryz.underlying28 hi1 b o (k + 2) cap (k + 1) (by omega) W
   obtain ⟨K, hK⟩ := ex_ (k + 1)
   obtain ⟨N, hN⟩ := ex_ (k + 2)
   rw [<- hK, <- hN] at kc
   rw [<- hK] at htl hkm
   rw [<- hN]
   have hw0 : IntKind.i64.wrap ((N : Int) - 1) = (K : Int) := by rw [show (N : Int) - 1 = (K : Int) by omega]; exact IntWalk.i64_in _ (by omega)
   have h0 : (0 : Int) < N := by omega
   have h1' : ((N : Int) == 1) = false := by
    have : (N : Int) ≠ 1 := by omega
    simpa using this
   have HTL := h_ htl
   clear hk hsl htl hK hN hx hce
   obtain ⟨d, hd⟩ := ex_ (decide (sch = [102, 105, 108, 101]))
   rw [<- hd] at hfe2
   clear hd
   cases d <;>
   ·go_enter Tryz.func26, Tryz.ntmps26
    go_wp2_with (first
     | (at_builtin; refine appN rfl (.const (.slice none 0 0)) (.tmp 29) rfl rfl ⟨b, o, none⟩ K cap Z rfl HTL.out hkm HCE.out ?_; intro v2 w3 hown2 hb2; have HO2 := h_ hown2; clear hown2; have HB2 := h_ hb2; clear hb2)
     | fail)
    go_ret
    exact ⟨_, rfl, by rw [List.length_map, HTL.out]; exact HO2.out, HB2.out⟩

theorem segGo_cons (sch : Bytes) (o : List Bytes) (p : Bytes) (r : List Bytes) : segGo sch o (p :: r) = segGo sch (segS sch o p (decide (r = []))) r := by
 cases r with
 | nil => rfl
 | cons q t => rfl
theorem seg_step {sch : Bytes} {o ps : List Bytes} {k : Nat} (h : k < ps.length) : segGo sch o (ps.drop k) = segGo sch (segS sch o ps[k] (decide (k + 1 = ps.length))) (ps.drop (k + 1)) := by
 rw [List.drop_eq_getElem_cons h, segGo_cons]
 have : decide (ps.drop (k + 1) = []) = decide (k + 1 = ps.length) := by
  rw [decide_eq_decide, List.drop_eq_nil_iff]
  omega
 rw [this]
theorem short_len (sch : Bytes) (p : List Bytes) : (shortF sch p).length <= p.length := by
 match p with
 | [] => exact Nat.le_refl _
 | [x] =>
  rw [short_one]
  split <;> simp
 | a :: b :: r =>
  rw [short_two (k := r.length) (by simp), List.length_take]
  omega
theorem segs_plen {sp : Bool} : ∀ {s p : Bytes}, p ∈ segs sp s -> p.length <= s.length
 | [], p, h => by
  have : p = [] := by simpa [segs] using h
  rw [this]; exact Nat.le_refl _
 | c :: t, p, h => by
  rw [segs] at h
  have ih := fun q (hq : q ∈ segs sp t) => segs_plen hq
  split at h
  ·rcases List.mem_cons.mp h with rfl | h
   ·simp
   ·have := ih p h
    rw [List.length_cons]; omega
  ·split at h
   ·have : p = [c] := by simpa using h
    rw [this]; simp
   ·next q qs he =>
    rw [he] at ih
    rcases List.mem_cons.mp h with rfl | h
    ·have := ih q (by simp)
     simp only [List.length_cons]; omega
    ·have := ih p (by simp [h])
     rw [List.length_cons]; omega
theorem sparse_any (sch s : Bytes) (path : List Bytes) (pv : Value) (w : World) (h : Sl w.heap.size w pv (path.map S)) (hs : s.length <= 307200000) (hl : path.length <= 307200000) (hx : ∀ x ∈ path, x.length <= 1024000000) :
  Calls Tryz.prog 149 #[.string (bs sch), pv, .string (bs s)] w (RetRow w 9 (Strs (segP sch path s))) := by
 obtain ⟨i1, hi1, hz1, hz2, hz3⟩ := info_parts str_info
 have hsp := fun W => special_any sch W
 have hss := fun W => ssplit_any s (spF sch) W (by omega)
 have hup := fun (o : List Bytes) v base W (hown : World.ownsRow W base 9 1 v o.length (Strs o)) h1 h2 => up_any sch o v base W hown h1 h2
 have hfe := sEq sch [102, 105, 108, 101]
 rw [toList_bs, toList_bs] at hfe
 obtain ⟨c, hc⟩ := ex_ (bs sch)
 have hfe2 : (c.toList == [102, 105, 108, 101]) = decide (sch = [102, 105, 108, 101]) := by rw [hc, toList_bs]; exact hfe
 rw [<- hc] at hsp hup ⊢
 clear hc hfe
 obtain ⟨R, hR⟩ := ex_ (segP sch path s)
 rw [<- hR]
 unfold segP at hR
 have hpl := fun p (hp : p ∈ segs (spF sch) s) => segs_plen hp
 have hsl := segs_len (spF sch) s
 generalize spF sch = sp at *
 obtain ⟨ps, hps⟩ := ex_ (segs sp s)
 rw [<- hps] at hss hR hpl hsl
 clear hps
 obtain ⟨t, ht⟩ := ex_ (bs s)
 rw [<- ht] at hss ⊢
 clear ht
 obtain ⟨n, hn⟩ := ex_ (ps.length)
 have hnm : n <= 307200001 := by omega
 have HSP := h_ hsp; clear hsp
 have HSS := h_ hss; clear hss
 have HUP := h_ hup; clear hup
 have HR := h_ hR; clear hR
 have HPL := h_ (show ∀ p ∈ ps, p.length <= 307200000 from fun p hp => Nat.le_trans (hpl p hp) hs)
 have HN := h_ hn
 have HH := h_ h
 have HX := h_ hx
 have HLP := h_ hl
 clear hpl hsl hs h hx hl hn
 go_enter Tryz.func149, Tryz.ntmps149
 go_upto_region 3 with (first
  | (go_at_call 22; refine (HSP.out _).mono ?_; rintro e w1 ⟨rfl, hw⟩; subst hw)
  | (go_at_call 182; refine (HSS.out _).mono ?_; rintro e w2 ⟨v2, rfl, ho, hb⟩; have HO := h_ ho; have HB2 := h_ hb; clear ho hb)
  | (go_at_call 60; refine (clone_any path pv _ ((HH.out.below HB2.out).more HB2.out.size) (by have := HLP.out; omega)).mono ?_; rintro e w3 ⟨v3, rfl, ho, hb⟩; have HO3 := h_ ho; have HB3 := h_ hb; clear ho hb)
  | fail)
 have hps := Sl.of_own HO.out
 obtain ⟨a2, c2, hv2⟩ := own_val HO.out
 subst hv2
 rw [List.length_map, <- HN.out] at hps ⊢
 have HPS := h_ hps
 have HB := h_ HB3.out
 clear HO hps HSS
 go_wp2_with fail
 go_loopw [8, 20] (fun ov iv wr => ∃ (k : Nat) (o : List Bytes), k <= n ∧ iv = .int .i64 k ∧ Hid (wr.ownsRow w2.heap.size 9 1 ov o.length (Strs o)) ∧ Hid (segGo sch o (ps.drop k) = R ∧ o.length <= 307200000 + k ∧ ∀ x ∈ o, x.length <= 1024000000) ∧ Hid (Below w2.heap.size w2 wr)) (fun _ i _ => n - (intOf i).toNat)
 case atStart => exact ⟨0, path, by omega, by simp, by have := HO3.out; rw [List.length_map] at this; exact this, ⟨HR.out.symm, by have := HLP.out; omega, HX.out⟩, HB.out⟩
 case round =>
  clear HO3 HB3 HB
  obtain ⟨k, o, hk, rfl, HO, hinv, HB⟩ := hrel
  obtain ⟨ov, oc, hov⟩ := own_val HO.out
  subst hov
  by_cases hlt : k < n
  ·have hkl : k < ps.length := by rw [<- HN.out]; exact hlt
   obtain ⟨b2, o2, rfl, hb2, hcell⟩ := strs_at (HPS.out.below HB.out) k hkl
   obtain ⟨hst, hol, hox⟩ := hinv.out
   rw [seg_step hkl, <- HN.out] at hst
   have hpl := HPL.out _ (List.getElem_mem hkl)
   have hdots := fun W => dots_any ps[k] W (by omega)
   have hdot := fun W => dot_any ps[k] W (by omega)
   have hdrv := fun W => drive_any ps[k] W (by omega)
   have henc := fun W => pencode_any 4 ps[k] W (by omega)
   have hencl := pcB_len 4 ps[k]
   obtain ⟨p, hp⟩ := ex_ (ps[k])
   rw [<- hp] at hst hcell hdots hdot hdrv henc hpl hencl
   clear hp hinv
   have hwz : w2.heap.size <= wr.heap.size := HB.out.size
   obtain ⟨M, hM⟩ : ∃ M, n = M + 1 := ⟨n - 1, by omega⟩
   have hwM : IntKind.i64.wrap ((n : Int) - 1) = (M : Int) := by rw [show (n : Int) - 1 = (M : Int) by omega]; exact IntWalk.i64_in _ (by omega)
   obtain ⟨la, hla⟩ := ex_ (decide (k + 1 = n))
   have hlb : ((k : Int) == (M : Int)) = la := by
    rw [hla, Bool.eq_iff_iff, beq_iff_eq, decide_eq_true_eq]
    omega
   rw [<- hla] at hst
   obtain ⟨pb, hpb⟩ := ex_ (bs p)
   replace hcell : World.cell? _ _ = some (.string (bs p)) := hcell
   rw [<- hpb] at hcell hdots hdot hdrv henc
   have hsg : segS sch o p la = if isDots p = true then (if la = true then shortF sch o ++ [[]] else shortF sch o) else if isDot p = true then (if la = true then o ++ [[]] else o) else if sch = [102, 105, 108, 101] ∧ o = [] ∧ driveF p = true then o ++ [p.take 1 ++ [58]] else o ++ [pcB 4 p] := rfl
   have HFIN := h_ (show ∀ o', o' = segS sch o p la -> o'.length <= o.length + 1 -> (∀ x ∈ o', x.length <= 1024000000) -> (segGo sch o' (ps.drop (k + 1)) = R ∧ o'.length <= 307200000 + (k + 1) ∧ ∀ x ∈ o', x.length <= 1024000000) from fun o' h1 h2 h3 => ⟨by rw [h1]; exact hst, by omega, h3⟩)
   have hos : ∀ x ∈ shortF sch o, x.length <= 1024000000 := fun x hx => hox x (short_mem hx)
   have hosl := short_len sch o
   have HSG := h_ hsg
   have HOX := h_ hox
   have HOS := h_ hos
   have HOL := h_ hol
   have HDS := h_ hdots
   have HDT := h_ hdot
   have HDV := h_ hdrv
   have HEN := h_ henc
   have HPB := h_ hpb
   have HEL := h_ hencl
   have HPLN := h_ hpl
   have hol2 : o.length <= 614400001 := by omega
   obtain ⟨ol, hole⟩ := ex_ (o.length)
   have hown := HO.out
   rw [<- hole] at hown hol2 ⊢
   have HO1 := h_ hown
   have HOE := h_ hole
   have hwk : IntKind.i64.wrap ((k : Int) + 1) = ((k + 1 : Nat) : Int) := by rw [show (k : Int) + 1 = ((k + 1 : Nat) : Int) by omega]; exact IntWalk.i64_in _ (by omega)
   have hE : (bs [] : ByteArray) = ⟨#[]⟩ := rfl
   clear hM hole hst hox hol hla hpb hsg hos hdots hdot hdrv henc hencl hpl hown HO HH HX HLP HPL
   cases hqd : isDots p with
   | true =>
    rw [hqd] at HDS HSG
    have hosl2 : (shortF sch o).length <= ol := by rw [HOE.out]; exact hosl
    obtain ⟨sl, hsl⟩ := ex_ ((shortF sch o).length)
    rw [<- hsl] at hosl2
    cases la with
    | true =>
     have HS := h_ (show shortF sch o ++ [[]] = segS sch o p true by rw [HSG.out]; rfl)
     have HSL := h_ hsl
     have HF := h_ (HFIN.out _ HS.out (by rw [List.length_append, <- HSL.out, <- HOE.out]; simp; omega) (fun x hx => by
      rcases List.mem_append.mp hx with hx | hx
      ·exact HOS.out x hx
      ·rw [List.mem_singleton.mp hx]; simp))
     have HSN := h_ (strs_snoc (shortF sch o) [])
     clear hqd hsl hosl
     go_wp2_with (first
      | (go_at_call 24; refine (HDS.out _).mono ?_; rintro e x1 ⟨rfl, hb⟩; have HO2 := h_ (own_below HO1.out hb); have HBX := h_ (HB.out.trans (hb.mono hwz)); have hz1x := hb.size; clear hb)
      | (go_at_call 183; refine (HUP.out o _ w2.heap.size _ (by rw [<- HOE.out]; exact HO2.out) (by rw [<- HOE.out]; omega) HOX.out).mono ?_; rintro e x2 ⟨⟨v4, rfl, ho⟩, hw⟩; subst hw; have ho2 := ho; rw [<- HSL.out] at ho2; have HO4 := h_ ho2; obtain ⟨a4, c4, hv4⟩ := own_val ho2; subst hv4; clear ho ho2)
      | (at_builtin; (refine push1 rfl (.tmp 42) (.tmp 43) _ rfl w2.heap.size 9 i1 (.string ⟨#[]⟩) 16 Tryz.underlying28 hi1 hz1 hz2 hz3 (by decide) _ _ sl (Strs (shortF sch o)) rfl HO4.out (.string ⟨#[]⟩) rfl rfl (by omega) (by decide) (by omega) ?_); intro v9 w9 hown9 hw9 hb9; have HO9 := h_ hown9; clear hown9; have HB9 := h_ hb9; clear hb9)
      | fail)
     go_roundw
     case rel => exact ⟨k + 1, shortF sch o ++ [[]], by omega, by simp, by rw [HSN.out, List.length_append, <- HSL.out]; exact HO9.out, HF.out, HBX.out.trans HB9.out⟩
     case measure => simp [intOf]; omega
    | false =>
     have HS := h_ (show shortF sch o = segS sch o p false by rw [HSG.out]; rfl)
     have HSL := h_ hsl
     have HF := h_ (HFIN.out _ HS.out (by rw [<- HSL.out, <- HOE.out]; omega) HOS.out)
     clear hqd hsl hosl
     go_wp2_with (first
      | (go_at_call 24; refine (HDS.out _).mono ?_; rintro e x1 ⟨rfl, hb⟩; have HO2 := h_ (own_below HO1.out hb); have HBX := h_ (HB.out.trans (hb.mono hwz)); have hz1x := hb.size; clear hb)
      | (go_at_call 183; refine (HUP.out o _ w2.heap.size _ (by rw [<- HOE.out]; exact HO2.out) (by rw [<- HOE.out]; omega) HOX.out).mono ?_; rintro e x2 ⟨⟨v4, rfl, ho⟩, hw⟩; subst hw; have ho2 := ho; rw [<- HSL.out] at ho2; have HO4 := h_ ho2; obtain ⟨a4, c4, hv4⟩ := own_val ho2; subst hv4; clear ho ho2)
      | fail)
     go_roundw
     case rel => exact ⟨k + 1, shortF sch o, by omega, by simp, by rw [<- HSL.out]; exact HO4.out, HF.out, HBX.out⟩
     case measure => simp [intOf]; omega
   | false =>
    rw [hqd] at HDS HSG
    cases hqt : isDot p with
    | true =>
     rw [hqt] at HDT HSG
     cases la with
     | true =>
      have HS := h_ (show o ++ [[]] = segS sch o p true by rw [HSG.out]; rfl)
      have HF := h_ (HFIN.out _ HS.out (by rw [List.length_append]; simp) (fun x hx => by
       rcases List.mem_append.mp hx with hx | hx
       ·exact HOX.out x hx
       ·rw [List.mem_singleton.mp hx]; simp))
      have HSN := h_ (strs_snoc o [])
      clear hqd hqt hosl
      go_wp2_with (first
       | (go_at_call 24; refine (HDS.out _).mono ?_; rintro e x1 ⟨rfl, hb⟩; have HO2 := h_ (own_below HO1.out hb); have HBX := h_ (HB.out.trans (hb.mono hwz)); have hz1x := hb.size; clear hb)
       | (go_at_call 23; refine (HDT.out _).mono ?_; rintro e y1 ⟨rfl, hb⟩; have HO3 := h_ (own_below HO2.out hb); have HBY := h_ (HBX.out.trans (hb.mono HBX.out.size)); have hz2x := hb.size; clear hb)
       | (at_builtin; (refine push1 rfl (.tmp 49) (.tmp 50) _ rfl w2.heap.size 9 i1 (.string ⟨#[]⟩) 16 Tryz.underlying28 hi1 hz1 hz2 hz3 (by decide) _ _ ol (Strs o) rfl HO3.out (.string ⟨#[]⟩) rfl rfl (by omega) (by decide) (by omega) ?_); intro v9 w9 hown9 hw9 hb9; have HO9 := h_ hown9; clear hown9; have HB9 := h_ hb9; clear hb9)
       | fail)
      go_roundw
      case rel => exact ⟨k + 1, o ++ [[]], by omega, by simp, by rw [HSN.out, List.length_append, <- HOE.out]; exact HO9.out, HF.out, HBY.out.trans HB9.out⟩
      case measure => simp [intOf]; omega
     | false =>
      have HS := h_ (show o = segS sch o p false by rw [HSG.out]; rfl)
      have HF := h_ (HFIN.out _ HS.out (by omega) HOX.out)
      clear hqd hqt hosl
      go_wp2_with (first
       | (go_at_call 24; refine (HDS.out _).mono ?_; rintro e x1 ⟨rfl, hb⟩; have HO2 := h_ (own_below HO1.out hb); have HBX := h_ (HB.out.trans (hb.mono hwz)); have hz1x := hb.size; clear hb)
       | (go_at_call 23; refine (HDT.out _).mono ?_; rintro e y1 ⟨rfl, hb⟩; have HO3 := h_ (own_below HO2.out hb); have HBY := h_ (HBX.out.trans (hb.mono HBX.out.size)); have hz2x := hb.size; clear hb)
       | fail)
      go_roundw
      case rel => exact ⟨k + 1, o, by omega, by simp, by rw [<- HOE.out]; exact HO3.out, HF.out, HBY.out⟩
      case measure => simp [intOf]; omega
    | false =>
     rw [hqt] at HDT HSG
     have hsd : segS sch o p la = if sch = [102, 105, 108, 101] ∧ o = [] ∧ driveF p = true then o ++ [p.take 1 ++ [58]] else o ++ [pcB 4 p] := HSG.out
     have h2p : driveF p = true -> p.length = 2 := fun h => by
      by_cases hq : p.length = 2
      ·exact hq
      ·rw [(drive_no hq).1] at h; cases h
     have honil : (o = []) ↔ ol = 0 := by rw [HOE.out]; exact List.length_eq_zero_iff.symm
     clear HSG hqd hqt hosl
     have henc : ¬ (sch = [102, 105, 108, 101] ∧ o = [] ∧ driveF p = true) -> (segGo sch (o ++ [pcB 4 p]) (ps.drop (k + 1)) = R ∧ (o ++ [pcB 4 p]).length <= 307200000 + (k + 1) ∧ ∀ x ∈ o ++ [pcB 4 p], x.length <= 1024000000) := fun hno => by
      rw [if_neg hno] at hsd
      refine HFIN.out _ hsd.symm (by rw [List.length_append]; simp) (fun x hx => ?_)
      rcases List.mem_append.mp hx with hx | hx
      ·exact HOX.out x hx
      ·rw [List.mem_singleton.mp hx]
       have := HEL.out
       have := HPLN.out
       omega
     have HSN := h_ (strs_snoc o (pcB 4 p))
     obtain ⟨eb, heb⟩ := ex_ (bs (pcB 4 p))
     rw [<- heb] at HSN
     replace HEN := h_ (show ∀ W, Calls Tryz.prog 20 #[.string pb, .int .i64 4] W fun e w' => e = .returned (.string eb) ∧ Below W.heap.size W w' from by rw [heb]; exact HEN.out)
     have HENC := h_ henc
     clear henc heb
     by_cases hf : sch = [102, 105, 108, 101]
     ·rw [decide_eq_true hf] at hfe2
      by_cases ho0 : ol = 0
      ·cases hqv : driveF p with
       | true =>
        have hp2 := h2p hqv
        rw [hqv] at HDV
        have hex : pb.extract 0 1 = bs (p.take 1) := by rw [HPB.out]; exact ext_to p 1
        obtain ⟨d1, hd1⟩ := ex_ (bs (p.take 1))
        rw [<- hd1] at hex
        have hpz : pb.size = 2 := by rw [HPB.out, bs_size, hp2]
        have hdz : d1.size = 1 := by rw [hd1, bs_size, List.length_take, hp2]; rfl
        obtain ⟨d2, hd2⟩ := ex_ (bs (p.take 1 ++ [58]))
        have hap : d1 ++ (⟨#[58]⟩ : ByteArray) = d2 := by rw [hd1, hd2, show (⟨#[58]⟩ : ByteArray) = bs [58] from rfl, bs_app]
        rw [if_pos ⟨hf, honil.mpr ho0, hqv⟩] at hsd
        have HF := h_ (HFIN.out _ hsd.symm (by rw [List.length_append]; simp) (fun x hx => by
         rcases List.mem_append.mp hx with hx | hx
         ·exact HOX.out x hx
         ·rw [List.mem_singleton.mp hx, List.length_append, List.length_take]; simp; omega))
        have HSN2 := h_ (strs_snoc o (p.take 1 ++ [58]))
        rw [<- hd2] at HSN2
        clear hsd h2p honil hqv hp2 hd1 hd2 hf HENC HSN
        subst ho0
        go_wp2_with (first
         | (go_at_call 24; refine (HDS.out _).mono ?_; rintro e x1 ⟨rfl, hb⟩; have HO2 := h_ (own_below HO1.out hb); have HBX := h_ (HB.out.trans (hb.mono hwz)); have hz1x := hb.size; clear hb)
         | (go_at_call 23; refine (HDT.out _).mono ?_; rintro e y1 ⟨rfl, hb⟩; have HO3 := h_ (own_below HO2.out hb); have HBY := h_ (HBX.out.trans (hb.mono HBX.out.size)); have hz2x := hb.size; clear hb)
         | (go_at_call 97; refine (HDV.out _).mono ?_; rintro e y3 ⟨rfl, hw⟩; subst hw)
         | (at_builtin; (refine push1 rfl (.tmp 64) (.tmp 68) _ rfl w2.heap.size 9 i1 (.string ⟨#[]⟩) 16 Tryz.underlying28 hi1 hz1 hz2 hz3 (by decide) _ _ 0 (Strs o) rfl HO3.out (.string d2) rfl rfl (by omega) (by decide) (by omega) ?_); intro v9 w9 hown9 hw9 hb9; have HO9 := h_ hown9; clear hown9; have HB9 := h_ hb9; clear hb9)
         | fail)
        go_roundw
        case rel => exact ⟨k + 1, o ++ [p.take 1 ++ [58]], by omega, by simp, by rw [HSN2.out, List.length_append, <- HOE.out]; exact HO9.out, HF.out, HBY.out.trans HB9.out⟩
        case measure => simp [intOf]; omega
       | false =>
        rw [hqv] at HDV
        have HF := h_ (HENC.out (fun h => by rw [hqv] at h; cases h.2.2))
        clear hsd h2p honil hqv hf HENC
        subst ho0
        go_wp2_with (first
         | (go_at_call 24; refine (HDS.out _).mono ?_; rintro e x1 ⟨rfl, hb⟩; have HO2 := h_ (own_below HO1.out hb); have HBX := h_ (HB.out.trans (hb.mono hwz)); have hz1x := hb.size; clear hb)
         | (go_at_call 23; refine (HDT.out _).mono ?_; rintro e y1 ⟨rfl, hb⟩; have HO3 := h_ (own_below HO2.out hb); have HBY := h_ (HBX.out.trans (hb.mono HBX.out.size)); have hz2x := hb.size; clear hb)
         | (go_at_call 97; refine (HDV.out _).mono ?_; rintro e y3 ⟨rfl, hw⟩; subst hw)
         | (go_at_call 20; refine (HEN.out _).mono ?_; rintro e y2 ⟨rfl, hb⟩; have HO5 := h_ (own_below HO3.out hb); have HBZ := h_ (HBY.out.trans (hb.mono HBY.out.size)); have hz3x := hb.size; clear hb)
         | (at_builtin; (refine push1 rfl (.tmp 30) (.tmp 33) _ rfl w2.heap.size 9 i1 (.string ⟨#[]⟩) 16 Tryz.underlying28 hi1 hz1 hz2 hz3 (by decide) _ _ 0 (Strs o) rfl HO5.out (.string eb) rfl rfl (by omega) (by decide) (by omega) ?_); intro v9 w9 hown9 hw9 hb9; have HO9 := h_ hown9; clear hown9; have HB9 := h_ hb9; clear hb9)
         | fail)
        go_roundw
        case rel => exact ⟨k + 1, o ++ [pcB 4 p], by omega, by simp, by rw [HSN.out, List.length_append, <- HOE.out]; exact HO9.out, HF.out, HBZ.out.trans HB9.out⟩
        case measure => simp [intOf]; omega
      ·have hob : ((ol : Int) == 0) = false := by
        have : (ol : Int) ≠ 0 := by omega
        simpa using this
       have HF := h_ (HENC.out (fun h => ho0 (honil.mp h.2.1)))
       clear hsd h2p honil hf HENC ho0
       go_wp2_with (first
        | (go_at_call 24; refine (HDS.out _).mono ?_; rintro e x1 ⟨rfl, hb⟩; have HO2 := h_ (own_below HO1.out hb); have HBX := h_ (HB.out.trans (hb.mono hwz)); have hz1x := hb.size; clear hb)
        | (go_at_call 23; refine (HDT.out _).mono ?_; rintro e y1 ⟨rfl, hb⟩; have HO3 := h_ (own_below HO2.out hb); have HBY := h_ (HBX.out.trans (hb.mono HBX.out.size)); have hz2x := hb.size; clear hb)
        | (go_at_call 20; refine (HEN.out _).mono ?_; rintro e y2 ⟨rfl, hb⟩; have HO5 := h_ (own_below HO3.out hb); have HBZ := h_ (HBY.out.trans (hb.mono HBY.out.size)); have hz3x := hb.size; clear hb)
        | (at_builtin; (refine push1 rfl (.tmp 30) (.tmp 33) _ rfl w2.heap.size 9 i1 (.string ⟨#[]⟩) 16 Tryz.underlying28 hi1 hz1 hz2 hz3 (by decide) _ _ ol (Strs o) rfl HO5.out (.string eb) rfl rfl (by omega) (by decide) (by omega) ?_); intro v9 w9 hown9 hw9 hb9; have HO9 := h_ hown9; clear hown9; have HB9 := h_ hb9; clear hb9)
        | fail)
       go_roundw
       case rel => exact ⟨k + 1, o ++ [pcB 4 p], by omega, by simp, by rw [HSN.out, List.length_append, <- HOE.out]; exact HO9.out, HF.out, HBZ.out.trans HB9.out⟩
       case measure => simp [intOf]; omega
     ·rw [decide_eq_false hf] at hfe2
      have HF := h_ (HENC.out (fun h => hf h.1))
      clear hsd h2p honil hf HENC
      go_wp2_with (first
       | (go_at_call 24; refine (HDS.out _).mono ?_; rintro e x1 ⟨rfl, hb⟩; have HO2 := h_ (own_below HO1.out hb); have HBX := h_ (HB.out.trans (hb.mono hwz)); have hz1x := hb.size; clear hb)
       | (go_at_call 23; refine (HDT.out _).mono ?_; rintro e y1 ⟨rfl, hb⟩; have HO3 := h_ (own_below HO2.out hb); have HBY := h_ (HBX.out.trans (hb.mono HBX.out.size)); have hz2x := hb.size; clear hb)
       | (go_at_call 20; refine (HEN.out _).mono ?_; rintro e y2 ⟨rfl, hb⟩; have HO5 := h_ (own_below HO3.out hb); have HBZ := h_ (HBY.out.trans (hb.mono HBY.out.size)); have hz3x := hb.size; clear hb)
       | (at_builtin; (refine push1 rfl (.tmp 30) (.tmp 33) _ rfl w2.heap.size 9 i1 (.string ⟨#[]⟩) 16 Tryz.underlying28 hi1 hz1 hz2 hz3 (by decide) _ _ ol (Strs o) rfl HO5.out (.string eb) rfl rfl (by omega) (by decide) (by omega) ?_); intro v9 w9 hown9 hw9 hb9; have HO9 := h_ hown9; clear hown9; have HB9 := h_ hb9; clear hb9)
       | fail)
      go_roundw
      case rel => exact ⟨k + 1, o ++ [pcB 4 p], by omega, by simp, by rw [HSN.out, List.length_append, <- HOE.out]; exact HO9.out, HF.out, HBZ.out.trans HB9.out⟩
      case measure => simp [intOf]; omega
  ·obtain rfl : k = n := by omega
   obtain ⟨h1, _, _⟩ := hinv.out
   have hdr : ps.drop k = [] := List.drop_eq_nil_of_le (by rw [<- HN.out]; exact Nat.le_refl _)
   rw [hdr] at h1
   have HRR := h_ (show R = o from h1.symm)
   clear h1 hdr hinv
   go_wp2_with fail
   go_ret
   refine ⟨_, rfl, ?_, stp HB2.out HB.out⟩
   rw [HRR.out, List.length_map]
   have h := HO.out
   rcases h.2 with ⟨e1, e2⟩ | ⟨g, cap, cur, e1, e2, e3⟩
   ·exact ⟨h.1, .inl ⟨e1, e2⟩⟩
   ·exact ⟨h.1, .inr ⟨g, cap, cur, e1, Nat.le_trans HB2.out.size e2, e3⟩⟩

structure Tn (b : Nat) (w w' : World) : Prop where
 s : w.heap.size <= w'.heap.size
 k : ∀ j, j < w.heap.size -> j ≠ b -> w'.heap[j]? = w.heap[j]?
section
variable {b : Nat} {w w' w2 : World}
theorem Tn.refl (b : Nat) (w : World) : Tn b w w := ⟨Nat.le_refl _, fun _ _ _ => rfl⟩
theorem Tn.trans (h : Tn b w w') (k : Tn b w' w2) : Tn b w w2 := ⟨Nat.le_trans h.s k.s, fun j hj hn => (k.k j (Nat.lt_of_lt_of_le hj h.s) hn).trans (h.k j hj hn)⟩
theorem Tn.of_below (h : Below w.heap.size w w') : Tn b w w' := ⟨h.size, fun j hj _ => h.block j hj⟩
theorem Tn.below (h : Tn b w w') (k : Below w'.heap.size w' w2) : Tn b w w2 := h.trans (Tn.of_below k)
theorem Tn.cb (h : Tn b w w') {g : Nat} {T : TypeId} {cs : Array Value} (i : CB w g T cs) (hn : g ≠ b) : CB w' g T cs := ⟨(h.k g i.lt hn).trans i.a⟩
theorem Tn.sl (h : Tn b w w') {B : Nat} {v : Value} {xs : List Value} (i : Sl B w v xs) (hB : B <= b) (hw : B <= w.heap.size) : Sl B w' v xs := i.keep fun j hj => h.k j (by omega) (by omega)
theorem Tn.row (h : Tn b w w') {base e n : Nat} {v : Value} {xs : List Value} (i : w.ownsRow base e 1 v n xs) (hb : b < base) : w'.ownsRow base e 1 v n xs := by
 refine ⟨i.1, ?_⟩
 rcases i.2 with h0 | ⟨g, cap, cur, e1, hg, hh, hr⟩
 ·exact .inl h0
 ·exact .inr ⟨g, cap, cur, e1, hg, (h.k g (Array.getElem?_eq_some_iff.1 hh).1 (by omega)).trans hh, hr⟩
end
section
variable {P : Program} {ops : Array Oper} {rest : List Oper} {o : Oper} {a : Act} {w : World} {K : Act -> World -> Prop} {Q : Exit -> Act -> World -> Prop}
theorem tn_setCell {w0 : World} {b : Nat} {T : TypeId} {cs : Array Value} (i : OB w0 b T cs w) (k : Nat) (v : Value) : Tn b w (w.setCell ⟨b, k, none⟩ v) := by
 rw [setCell_eq_setRow w b k cs T (0, 0) v i.a]
 exact ⟨by rw [setRow_size]; exact Nat.le_refl _, fun j _ hj => setRow_other w b j _ hj⟩
theorem tn_setCells {w0 : World} {b : Nat} {T : TypeId} : ∀ (vs : List Value) (k : Nat) {cs : Array Value} {w : World}, OB w0 b T cs w -> Tn b w (w.setCells b k vs)
 | [], _, _, w, _ => Tn.refl b w
 | v :: r, k, _, _, i => (tn_setCell i k v).trans (tn_setCells r (k + 1) (i.setCell k v))
theorem put1_wp (ty : TypeId) (x y : Operand) (ho : o.op = .store ty x y) (w0 : World) (b : Nat) (T : TypeId) (cs : Array Value) (i : OB w0 b T cs w) (k : Nat) (v : Value) (hx : a.eval x = .pointer (some ⟨b, k, none⟩)) (hy : a.eval y = v)
  (hk : k < cs.size) (hi : (P.info? ty).map (·.size) = some 1) (h1 : v.oneCell' = true) (cs' : Array Value) (hc : cs.setIfInBounds k v = cs')
  (h : ∀ w', OB w0 b T cs' w' -> Tn b w w' -> K (a.put o.dst undef) w') : Oper.wp P o a w K Q := by
 unfold Oper.wp execOp
 simp only [ho, hx, hy, Instr.storeAt, Instr.sureAddr, Sem.run_bind, Sem.run_pure, Result.andThen_ok, run_storeVar_c w b k ty T cs v i.a hk hi h1]
 exact h _ (hc ▸ i.setCell k v) (tn_setCell i k v)
theorem putN_wp (ty : TypeId) (x y : Operand) (ho : o.op = .store ty x y) (w0 : World) (b : Nat) (T : TypeId) (cs : Array Value) (i : OB w0 b T cs w) (k : Nat) (vs : List Value) (hx : a.eval x = .pointer (some ⟨b, k, none⟩)) (hy : a.eval y = .agg vs.toArray)
  (hk : k + vs.length <= cs.size) (hi : (P.info? ty).map (·.size) = some vs.length) (h1 : ∀ v ∈ vs, v.oneCell' = true) (cs' : Array Value) (hc : putC cs k vs = cs')
  (h : ∀ w', OB w0 b T cs' w' -> Tn b w w' -> K (a.put o.dst undef) w') : Oper.wp P o a w K Q :=
 wp_store_mid ty x y ho b k vs.toArray hx hy (i.there (by simpa using hk)) (by simpa using hi) (all_oneCell_toArray h1) (h _ (hc ▸ i.setCells vs k) (tn_setCells vs k i))
theorem put1t (hgd : o.guard = none) (ty : TypeId) (x y : Operand) (ho : o.op = .store ty x y) (w0 : World) (b : Nat) (T : TypeId) (cs : Array Value) (i : OB w0 b T cs w) (k : Nat) (v : Value) (hx : a.eval x = .pointer (some ⟨b, k, none⟩)) (hy : a.eval y = v)
  (hk : k < cs.size) (hi : (P.info? ty).map (·.size) = some 1) (h1 : v.oneCell' = true) (cs' : Array Value) (hc : cs.setIfInBounds k v = cs')
  (h : ∀ w', OB w0 b T cs' w' -> Tn b w w' -> wpList P ops Q rest (a.put o.dst undef) w') : wpList P ops Q (o :: rest) a w :=
 wpList_plain hgd fun _ hK => put1_wp ty x y ho w0 b T cs i k v hx hy hk hi h1 cs' hc fun w' h1 h2 => hK _ _ (h w' h1 h2)
theorem putNt (hgd : o.guard = none) (ty : TypeId) (x y : Operand) (ho : o.op = .store ty x y) (w0 : World) (b : Nat) (T : TypeId) (cs : Array Value) (i : OB w0 b T cs w) (k : Nat) (vs : List Value) (hx : a.eval x = .pointer (some ⟨b, k, none⟩)) (hy : a.eval y = .agg vs.toArray)
  (hk : k + vs.length <= cs.size) (hi : (P.info? ty).map (·.size) = some vs.length) (h1 : ∀ v ∈ vs, v.oneCell' = true) (cs' : Array Value) (hc : putC cs k vs = cs')
  (h : ∀ w', OB w0 b T cs' w' -> Tn b w w' -> wpList P ops Q rest (a.put o.dst undef) w') : wpList P ops Q (o :: rest) a w :=
 wpList_plain hgd fun _ hK => putN_wp ty x y ho w0 b T cs i k vs hx hy hk hi h1 cs' hc fun w' h1 h2 => hK _ _ (h w' h1 h2)
end
theorem u_lt {pv : Value} {u : Url} {k : Nat} (h : u.host.six.length = 8) (hk : k < 23) : k < (uCells pv u).size := by rw [u_size h]; exact hk
theorem u_le3 {pv : Value} {u : Url} {g : Hst} (h : u.host.six.length = 8) (hg : g.six.length = 8) : 3 + (hstCells g).length <= (uCells pv u).size := by rw [u_size h]; simp [hstCells, hg]
theorem pathOf_any (sch s : Bytes) (w : World) (hs : s.length <= 307200000) : Calls Tryz.prog 153 #[.string (bs sch), .string (bs s)] w (RetRow w 9 (Strs (pathF' sch s))) := by
 have hsl := fun W => slashes_any sch s W (by omega)
 have h1 := fun W => sparse_any sch s [] nilV W Sl.nil hs (by simp) (by simp)
 have h2 := fun W => sparse_any sch (s.drop 1) [] nilV W Sl.nil (by rw [List.length_drop]; omega) (by simp) (by simp)
 have hle := slN_le (spF sch) s
 obtain ⟨R, hR⟩ := ex_ (pathF' sch s)
 rw [<- hR]
 unfold pathF' at hR
 generalize bs sch = c at *
 generalize slN (spF sch) s = k at *
 obtain ⟨t, ht⟩ := ex_ (bs s)
 have hsz : t.size = s.length := by rw [ht, bs_size]
 have hex : t.extract 1 t.size = bs (s.drop 1) := by rw [ht]; exact ext_all s 1 _ (bs_size s)
 rw [<- ht] at hsl h1 ⊢
 clear ht
 obtain ⟨N, hN⟩ := ex_ (t.size)
 have htN : t.size = N := hN.symm
 rw [htN] at hex
 obtain ⟨u, hu⟩ := ex_ (bs (s.drop 1))
 rw [<- hu] at hex h2
 have HSL := h_ hsl
 by_cases hk : 0 < k
 ·rw [if_pos hk] at hR
  rw [<- hR] at h2
  have H2 := h_ h2
  have hki : (0 : Int) < k := by omega
  have hN1 : 1 <= N := by omega
  have hN1i : (1 : Int) <= N := by omega
  clear hsl h1 h2 hle hR hu hN hsz hs
  go_enter Tryz.func153, Tryz.ntmps153
  go_wp2_with (first
   | (go_at_call 146; refine (HSL.out _).mono ?_; rintro e w2 ⟨rfl, hw⟩; subst hw)
   | (go_at_call 149; refine (H2.out _).mono ?_; rintro e w3 ⟨v, rfl, ho, hb⟩; have HO := h_ ho; have HB := h_ hb; clear ho hb)
   | fail)
  go_ret
  exact ⟨_, rfl, HO.out, HB.out⟩
 ·rw [if_neg hk] at hR
  rw [<- hR] at h1
  have H1 := h_ h1
  have hki : ¬ (0 : Int) < k := by omega
  clear hsl h1 h2 hle hR hu hN hsz hs hex
  go_enter Tryz.func153, Tryz.ntmps153
  go_wp2_with (first
   | (go_at_call 146; refine (HSL.out _).mono ?_; rintro e w2 ⟨rfl, hw⟩; subst hw)
   | (go_at_call 149; refine (H1.out _).mono ?_; rintro e w3 ⟨v, rfl, ho, hb⟩; have HO := h_ ho; have HB := h_ hb; clear ho hb)
   | fail)
  go_ret
  exact ⟨_, rfl, HO.out, HB.out⟩

theorem takeAuth_any (w0 : World) (b : Nat) (pv pv2 : Value) (u ub : Url) (w : World) (i : OB w0 b 30 (uCells pv u) w) (h8 : u.host.six.length = 8) (b8 : ub.host.six.length = 8) :
  Calls Tryz.prog 155 #[.pointer (some ⟨b, 0, none⟩), .agg (uCells pv2 ub)] w fun e w' => e = .returned (.tuple #[]) ∧ OB w0 b 30 (uCells pv (takeA u ub)) w' ∧ Tn b w w' := by
 have II := h_ i
 have H8 := h_ h8
 have B8 := h_ b8
 have UA := h_ (uAt pv2 ub b8)
 have HI := h_ (show (Tryz.prog.info? 27).map (·.size) = some (hstCells ub.host).length by rw [host_info]; simp [hstCells, b8])
 clear h8 b8
 go_enter Tryz.func155, Tryz.ntmps155
 go_upto_region 1 with fail
 have hx := CB.new w 30 (uCells pv2 ub)
 have hb := (Below.refl w.heap.size w).alloc (Nat.le_refl _) (.cells (uCells pv2 ub) 30)
 have hne : w.heap.size ≠ b := by have := II.out.lt; omega
 obtain ⟨w2, hw2⟩ := ex_ (w.alloc (.cells (uCells pv2 ub) 30))
 rw [<- hw2] at hx hb ⊢
 obtain ⟨bx, hbx⟩ := ex_ (w.heap.size)
 have HB := h_ hb
 rw [<- hbx] at hx hne ⊢
 have HX := h_ hx
 clear hw2 hbx hx hb
 have I0 := h_ ((II.out.below HB.out).below (bz_drew (bz_refl _)))
 have C0 := h_ (HX.out.keep (bz_drew (bz_refl _)))
 have T0 := h_ ((Tn.of_below (b := b) HB.out).below (bz_drew (bz_refl _)))
 refine wp_region_held_drew (S := fun W => CB W bx 30 (uCells pv2 ub)) (by kernel_rfl) (by first | exact HX.out.keep (bz_drew (bz_refl _)) | exact C5.out | exact C4.out | exact C3.out | exact C2.out | exact C1.out) (fun hHeld => ?_)
 refine tk 0 (v := ?_) rfl (by kernel_rfl) (by kernel_rfl) (by kernel_rfl) (fun _ _ _ h => h) (by rfl) (by assumption) (fun wS hSw => ?_) ?_
 rotate_left
 ·(try dsimp only at hSw); go_simp; first | done | with_reducible rfl
 try simp only [Act.put, List.setIfInBounds_toArray, List.set_cons_zero, List.set_cons_succ]
 refine tk 1 (v := ?_) rfl (by kernel_rfl) (by kernel_rfl) (by kernel_rfl) (fun _ _ _ h => h) (by rfl) (by assumption) (fun wS hSw => ?_) ?_
 rotate_left
 ·(try dsimp only at hSw); go_simp; first | done | with_reducible rfl
 try simp only [Act.put, List.setIfInBounds_toArray, List.set_cons_zero, List.set_cons_succ]
 refine tk 2 (v := ?_) rfl (by kernel_rfl) (by kernel_rfl) (by kernel_rfl) (fun _ _ _ h => h) (by rfl) (by assumption) (fun wS hSw => ?_) ?_
 rotate_left
 ·(try dsimp only at hSw); go_simp; first | done | with_reducible rfl
 try simp only [Act.put, List.setIfInBounds_toArray, List.set_cons_zero, List.set_cons_succ]
 refine tk 3 (v := ?_) rfl (by kernel_rfl) (by kernel_rfl) (by kernel_rfl) (fun _ _ _ h => h) (by rfl) (by assumption) (fun wS hSw => ?_) ?_
 rotate_left
 ·(try dsimp only at hSw); go_simp; first | done | with_reducible rfl
 try simp only [Act.put, List.setIfInBounds_toArray, List.set_cons_zero, List.set_cons_succ]
 refine tk 4 (v := ?_) rfl (by kernel_rfl) (by kernel_rfl) (by kernel_rfl) (fun _ _ _ h => h) (by rfl) (by assumption) (fun wS hSw => ?_) ?_
 rotate_left
 ·(try dsimp only at hSw); go_simp; first | done | with_reducible rfl
 try simp only [Act.put, List.setIfInBounds_toArray, List.set_cons_zero, List.set_cons_succ]
 refine tk 5 (v := ?_) rfl (by kernel_rfl) (by kernel_rfl) (by kernel_rfl) (fun _ _ _ h => h) (by rfl) (by assumption) (fun wS hSw => ?_) ?_
 rotate_left
 ·(try dsimp only at hSw); go_simp; first | done | with_reducible rfl
 try simp only [Act.put, List.setIfInBounds_toArray, List.set_cons_zero, List.set_cons_succ]
 refine tk 6 (v := ?_) rfl (by kernel_rfl) (by kernel_rfl) (by kernel_rfl) (fun _ _ _ h => h) (by rfl) (by assumption) (fun wS hSw => ?_) ?_
 rotate_left
 ·(try dsimp only at hSw)
  refine load1_exec 9 (.tmp 9) ?_ bx 1 (S ub.usr) _ Tryz.underlying9 rfl ?_ ?_
  ·rfl
  ·rfl
  ·exact hSw.cell_is UA.out.usr
 try simp only [Act.put, List.setIfInBounds_toArray, List.set_cons_zero, List.set_cons_succ]
 refine tk 7 (v := ?_) rfl (by kernel_rfl) (by kernel_rfl) (by kernel_rfl) (fun _ _ _ h => h) (by rfl) (by assumption) (fun wS hSw => ?_) ?_
 rotate_left
 ·(try dsimp only at hSw); go_simp; first | done | with_reducible rfl
 try simp only [Act.put, List.setIfInBounds_toArray, List.set_cons_zero, List.set_cons_succ]
 refine tk 8 (v := ?_) rfl (by kernel_rfl) (by kernel_rfl) (by kernel_rfl) (fun _ _ _ h => h) (by rfl) (by assumption) (fun wS hSw => ?_) ?_
 rotate_left
 ·(try dsimp only at hSw)
  refine load1_exec 9 (.tmp 11) ?_ bx 2 (S ub.pas) _ Tryz.underlying9 rfl ?_ ?_
  ·rfl
  ·rfl
  ·exact hSw.cell_is UA.out.pas
 try simp only [Act.put, List.setIfInBounds_toArray, List.set_cons_zero, List.set_cons_succ]
 refine tk 9 (v := ?_) rfl (by kernel_rfl) (by kernel_rfl) (by kernel_rfl) (fun _ _ _ h => h) (by rfl) (by assumption) (fun wS hSw => ?_) ?_
 rotate_left
 ·(try dsimp only at hSw); go_simp; first | done | with_reducible rfl
 try simp only [Act.put, List.setIfInBounds_toArray, List.set_cons_zero, List.set_cons_succ]
 refine tk 10 (v := ?_) rfl (by kernel_rfl) (by kernel_rfl) (by kernel_rfl) (fun _ _ _ h => h) (by rfl) (by assumption) (fun wS hSw => ?_) ?_
 rotate_left
 ·(try dsimp only at hSw)
  refine loadM_exec 27 (.tmp 13) ?_ bx 3 (hstCells ub.host) _ Tryz.underlying27 rfl HI.out ?_ ?_
  ·rfl
  ·rfl
  ·exact hSw.range UA.out.host
 try simp only [Act.put, List.setIfInBounds_toArray, List.set_cons_zero, List.set_cons_succ]
 refine tk 11 (v := ?_) rfl (by kernel_rfl) (by kernel_rfl) (by kernel_rfl) (fun _ _ _ h => h) (by rfl) (by assumption) (fun wS hSw => ?_) ?_
 rotate_left
 ·(try dsimp only at hSw); go_simp; first | done | with_reducible rfl
 try simp only [Act.put, List.setIfInBounds_toArray, List.set_cons_zero, List.set_cons_succ]
 refine tk 12 (v := ?_) rfl (by kernel_rfl) (by kernel_rfl) (by kernel_rfl) (fun _ _ _ h => h) (by rfl) (by assumption) (fun wS hSw => ?_) ?_
 rotate_left
 ·(try dsimp only at hSw)
  refine load1_exec 4 (.tmp 15) ?_ bx 14 (.bool ub.hasPort) _ Tryz.underlying4 rfl ?_ ?_
  ·rfl
  ·rfl
  ·exact hSw.cell_is UA.out.hasPort
 try simp only [Act.put, List.setIfInBounds_toArray, List.set_cons_zero, List.set_cons_succ]
 refine tk 13 (v := ?_) rfl (by kernel_rfl) (by kernel_rfl) (by kernel_rfl) (fun _ _ _ h => h) (by rfl) (by assumption) (fun wS hSw => ?_) ?_
 rotate_left
 ·(try dsimp only at hSw); go_simp; first | done | with_reducible rfl
 try simp only [Act.put, List.setIfInBounds_toArray, List.set_cons_zero, List.set_cons_succ]
 refine tk 14 (v := ?_) rfl (by kernel_rfl) (by kernel_rfl) (by kernel_rfl) (fun _ _ _ h => h) (by rfl) (by assumption) (fun wS hSw => ?_) ?_
 rotate_left
 ·(try dsimp only at hSw)
  refine load1_exec 3 (.tmp 17) ?_ bx 15 (.int .i64 ub.port) _ Tryz.underlying3 rfl ?_ ?_
  ·rfl
  ·rfl
  ·exact hSw.cell_is UA.out.port
 try simp only [Act.put, List.setIfInBounds_toArray, List.set_cons_zero, List.set_cons_succ]
 refine tk 15 (v := ?_) rfl (by kernel_rfl) (by kernel_rfl) (by kernel_rfl) (fun _ _ _ h => h) (by rfl) (by assumption) (fun wS hSw => ?_) ?_
 rotate_left
 ·(try dsimp only at hSw); go_simp; first | done | with_reducible rfl
 try simp only [Act.put, List.setIfInBounds_toArray, List.set_cons_zero, List.set_cons_succ]
 refine tk 16 (v := ?_) rfl (by kernel_rfl) (by kernel_rfl) (by kernel_rfl) (fun _ _ _ h => h) (by rfl) (by assumption) (fun wS hSw => ?_) ?_
 rotate_left
 ·(try dsimp only at hSw); go_simp; first | done | with_reducible rfl
 try simp only [Act.put, List.setIfInBounds_toArray, List.set_cons_zero, List.set_cons_succ]
 refine rn 17 (by kernel_rfl) rfl (by rfl) (fun K hK => ?_)
 refine put1_wp 9 (.tmp 20) (.tmp 10) rfl w0 b 30 (uCells pv u) I0.out 1 (S ub.usr) rfl rfl (u_lt H8.out (by decide)) one_info.1 rfl (uCells pv { u with usr := ub.usr }) ((uPut pv u H8.out).usr _) ?_
 intro x1 i1 t1
 have I1 := h_ i1; have C1 := h_ (t1.cb C0.out hne); have T1 := h_ (T0.out.trans t1)
 clear i1 t1
 refine hK.out _ _ ?_ (fun hHeld => ?_)
 ·first | exact HX.out.keep (bz_drew (bz_refl _)) | exact C5.out | exact C4.out | exact C3.out | exact C2.out | exact C1.out
 clear hK K
 try simp only [Act.put]
 refine tk 18 (v := ?_) rfl (by kernel_rfl) (by kernel_rfl) (by kernel_rfl) (fun _ _ _ h => h) (by rfl) (by assumption) (fun wS hSw => ?_) ?_
 rotate_left
 ·(try dsimp only at hSw); go_simp; first | done | with_reducible rfl
 try simp only [Act.put, List.setIfInBounds_toArray, List.set_cons_zero, List.set_cons_succ]
 refine tk 19 (v := ?_) rfl (by kernel_rfl) (by kernel_rfl) (by kernel_rfl) (fun _ _ _ h => h) (by rfl) (by assumption) (fun wS hSw => ?_) ?_
 rotate_left
 ·(try dsimp only at hSw); go_simp; first | done | with_reducible rfl
 try simp only [Act.put, List.setIfInBounds_toArray, List.set_cons_zero, List.set_cons_succ]
 refine rn 20 (by kernel_rfl) rfl (by rfl) (fun K hK => ?_)
 refine put1_wp 9 (.tmp 22) (.tmp 12) rfl w0 b 30 (uCells pv { u with usr := ub.usr }) I1.out 2 (S ub.pas) rfl rfl (u_lt H8.out (by decide)) one_info.1 rfl (uCells pv { u with usr := ub.usr, pas := ub.pas }) ((uPut pv { u with usr := ub.usr } H8.out).pas _) ?_
 intro x2 i1 t1
 have I2 := h_ i1; have C2 := h_ (t1.cb C1.out hne); have T2 := h_ (T1.out.trans t1)
 clear i1 t1
 refine hK.out _ _ ?_ (fun hHeld => ?_)
 ·first | exact HX.out.keep (bz_drew (bz_refl _)) | exact C5.out | exact C4.out | exact C3.out | exact C2.out | exact C1.out
 clear hK K
 try simp only [Act.put]
 refine tk 21 (v := ?_) rfl (by kernel_rfl) (by kernel_rfl) (by kernel_rfl) (fun _ _ _ h => h) (by rfl) (by assumption) (fun wS hSw => ?_) ?_
 rotate_left
 ·(try dsimp only at hSw); go_simp; first | done | with_reducible rfl
 try simp only [Act.put, List.setIfInBounds_toArray, List.set_cons_zero, List.set_cons_succ]
 refine tk 22 (v := ?_) rfl (by kernel_rfl) (by kernel_rfl) (by kernel_rfl) (fun _ _ _ h => h) (by rfl) (by assumption) (fun wS hSw => ?_) ?_
 rotate_left
 ·(try dsimp only at hSw); go_simp; first | done | with_reducible rfl
 try simp only [Act.put, List.setIfInBounds_toArray, List.set_cons_zero, List.set_cons_succ]
 refine rn 23 (by kernel_rfl) rfl (by rfl) (fun K hK => ?_)
 refine putN_wp 27 (.tmp 24) (.tmp 14) rfl w0 b 30 (uCells pv { u with usr := ub.usr, pas := ub.pas }) I2.out 3 (hstCells ub.host) rfl rfl (u_le3 H8.out B8.out) HI.out hst_one (uCells pv { u with usr := ub.usr, pas := ub.pas, host := ub.host }) (u_host pv { u with usr := ub.usr, pas := ub.pas } ub.host B8.out H8.out) ?_
 intro x3 i1 t1
 have I3 := h_ i1; have C3 := h_ (t1.cb C2.out hne); have T3 := h_ (T2.out.trans t1)
 clear i1 t1
 refine hK.out _ _ ?_ (fun hHeld => ?_)
 ·first | exact HX.out.keep (bz_drew (bz_refl _)) | exact C5.out | exact C4.out | exact C3.out | exact C2.out | exact C1.out
 clear hK K
 try simp only [Act.put]
 refine tk 24 (v := ?_) rfl (by kernel_rfl) (by kernel_rfl) (by kernel_rfl) (fun _ _ _ h => h) (by rfl) (by assumption) (fun wS hSw => ?_) ?_
 rotate_left
 ·(try dsimp only at hSw); go_simp; first | done | with_reducible rfl
 try simp only [Act.put, List.setIfInBounds_toArray, List.set_cons_zero, List.set_cons_succ]
 refine tk 25 (v := ?_) rfl (by kernel_rfl) (by kernel_rfl) (by kernel_rfl) (fun _ _ _ h => h) (by rfl) (by assumption) (fun wS hSw => ?_) ?_
 rotate_left
 ·(try dsimp only at hSw); go_simp; first | done | with_reducible rfl
 try simp only [Act.put, List.setIfInBounds_toArray, List.set_cons_zero, List.set_cons_succ]
 refine rn 26 (by kernel_rfl) rfl (by rfl) (fun K hK => ?_)
 refine put1_wp 4 (.tmp 26) (.tmp 16) rfl w0 b 30 (uCells pv { u with usr := ub.usr, pas := ub.pas, host := ub.host }) I3.out 14 (.bool ub.hasPort) rfl rfl (u_lt B8.out (by decide)) one_info.2.2 rfl (uCells pv { u with usr := ub.usr, pas := ub.pas, host := ub.host, hasPort := ub.hasPort }) ((uPut pv { u with usr := ub.usr, pas := ub.pas, host := ub.host } B8.out).hasPort _) ?_
 intro x4 i1 t1
 have I4 := h_ i1; have C4 := h_ (t1.cb C3.out hne); have T4 := h_ (T3.out.trans t1)
 clear i1 t1
 refine hK.out _ _ ?_ (fun hHeld => ?_)
 ·first | exact HX.out.keep (bz_drew (bz_refl _)) | exact C5.out | exact C4.out | exact C3.out | exact C2.out | exact C1.out
 clear hK K
 try simp only [Act.put]
 refine tk 27 (v := ?_) rfl (by kernel_rfl) (by kernel_rfl) (by kernel_rfl) (fun _ _ _ h => h) (by rfl) (by assumption) (fun wS hSw => ?_) ?_
 rotate_left
 ·(try dsimp only at hSw); go_simp; first | done | with_reducible rfl
 try simp only [Act.put, List.setIfInBounds_toArray, List.set_cons_zero, List.set_cons_succ]
 refine tk 28 (v := ?_) rfl (by kernel_rfl) (by kernel_rfl) (by kernel_rfl) (fun _ _ _ h => h) (by rfl) (by assumption) (fun wS hSw => ?_) ?_
 rotate_left
 ·(try dsimp only at hSw); go_simp; first | done | with_reducible rfl
 try simp only [Act.put, List.setIfInBounds_toArray, List.set_cons_zero, List.set_cons_succ]
 refine rn 29 (by kernel_rfl) rfl (by rfl) (fun K hK => ?_)
 refine put1_wp 3 (.tmp 28) (.tmp 18) rfl w0 b 30 (uCells pv { u with usr := ub.usr, pas := ub.pas, host := ub.host, hasPort := ub.hasPort }) I4.out 15 (.int .i64 ub.port) rfl rfl (u_lt B8.out (by decide)) one_info.2.1 rfl (uCells pv (takeA u ub)) ((uPut pv { u with usr := ub.usr, pas := ub.pas, host := ub.host, hasPort := ub.hasPort } B8.out).port _) ?_
 intro x5 i1 t1
 have I5 := h_ i1; have C5 := h_ (t1.cb C4.out hne); have T5 := h_ (T4.out.trans t1)
 clear i1 t1
 refine hK.out _ _ ?_ (fun hHeld => ?_)
 ·first | exact HX.out.keep (bz_drew (bz_refl _)) | exact C5.out | exact C4.out | exact C3.out | exact C2.out | exact C1.out
 clear hK K
 try simp only [Act.put]
 refine wpAnyH_done (by kernel_rfl) ?_ _
 go_wp2_with fail
 go_end0
 exact ⟨rfl, I5.out, T5.out⟩

theorem sl_info : (Tryz.prog.info? 28).map (·.size) = some 1 := by kernel_rfl
theorem own_one {w : World} {base e n : Nat} {v : Value} {xs : List Value} (h : w.ownsRow base e 1 v n xs) : v.oneCell' = true := by
 obtain ⟨a, c, rfl⟩ := own_val h
 rfl
theorem takePath_any (w0 : World) (b : Nat) (pv pv2 : Value) (u ub : Url) (w : World) (i : OB w0 b 30 (uCells pv u) w) (h8 : u.host.six.length = 8) (b8 : ub.host.six.length = 8) (hp : Sl w.heap.size w pv2 (ub.path.map S)) (hl : ub.path.length <= 1024000000) :
  Calls Tryz.prog 150 #[.pointer (some ⟨b, 0, none⟩), .agg (uCells pv2 ub)] w fun e w' => e = .returned (.tuple #[]) ∧ ∃ pv', OB w0 b 30 (uCells pv' (takeP u ub)) w' ∧ w'.ownsRow w.heap.size 9 1 pv' ub.path.length (Strs ub.path) ∧ Tn b w w' := by
 have II := h_ i
 have H8 := h_ h8
 have UA := h_ (uAt pv2 ub b8)
 have HP := h_ hp
 have HL := h_ hl
 obtain ⟨tp, htp⟩ := ex_ (takeP u ub)
 rw [<- htp]
 unfold takeP at htp
 have UU := h_ (uAt pv u h8)
 clear h8 b8 hp hl i
 go_enter Tryz.func150, Tryz.ntmps150
 go_upto_region 1 with fail
 have hx := CB.new w 30 (uCells pv2 ub)
 have hb := (Below.refl w.heap.size w).alloc (Nat.le_refl _) (.cells (uCells pv2 ub) 30)
 have hne : w.heap.size ≠ b := by have := II.out.lt; omega
 have hbw : b < w.heap.size := II.out.lt
 obtain ⟨w2, hw2⟩ := ex_ (w.alloc (.cells (uCells pv2 ub) 30))
 rw [<- hw2] at hx hb ⊢
 obtain ⟨bx, hbx⟩ := ex_ (w.heap.size)
 have HB := h_ hb
 rw [<- hbx] at hx hne ⊢
 have HX := h_ hx
 have HBX := h_ hbx
 clear hw2 hbx hx hb
 have c18 := HX.out.cell_is UA.out.path
 have I2 := h_ (II.out.below HB.out)
 have hq : u.hasQ = true ∨ u.hasQ = false := by cases u.hasQ <;> simp
 obtain ⟨qv, hqv⟩ := ex_ (u.hasQ)
 go_upto_region 2 with (first
  | (go_at_call 60; refine (clone_any ub.path pv2 _ ((HP.out.below HB.out).more HB.out.size) HL.out).mono ?_; rintro e w3 ⟨v3, rfl, ho, hb⟩; have R3 := h_ (show w3.ownsRow w.heap.size 9 1 v3 ub.path.length (Strs ub.path) by have ho2 := ho; rw [List.length_map] at ho2; rcases ho2.2 with h | ⟨g, cap, cur, e1, e2, e3⟩; exact ⟨ho2.1, .inl h⟩; exact ⟨ho2.1, .inr ⟨g, cap, cur, e1, Nat.le_trans HB.out.size e2, e3⟩⟩); have I3 := h_ (I2.out.below hb); have C2 := h_ (HX.out.keep hb); have T3 := h_ ((Tn.of_below (b := b) HB.out).below hb); clear ho hb)
  | (refine put1t rfl 28 (.tmp 9) (.tmp 7) rfl w0 b 30 (uCells pv u) I3.out 18 v3 rfl rfl (u_lt H8.out (by decide)) sl_info (own_one R3.out) (uCells v3 { u with path := ub.path }) ((uPut pv u H8.out).path _ _) ?_; intro w4 i1 t1; have I34 := h_ i1; have C3 := h_ (t1.cb C2.out hne); have T34 := h_ (T3.out.trans t1); have R34 := h_ (t1.row R3.out hbw); clear i1 t1)
  | fail)
 clear c18
 have UV := h_ (uAt v3 { u with path := ub.path } H8.out)
 have c19 := I34.out.cell_is UV.out.hasQ
 cases hqq : u.hasQ with
 | true =>
  rw [if_pos hqq] at htp
  have HTP := h_ htp
  replace c19 : w4.cell? ⟨b, 19, none⟩ = some (.bool true) := by rw [c19, <- hqq]
  clear htp hq hqv hqq
  go_wp2_with fail
  go_end0
  exact ⟨rfl, _, (by rw [HTP.out]; exact I34.out), R34.out, T34.out⟩
 | false =>
  rw [if_neg (by simp [hqq])] at htp
  have HTP := h_ htp
  replace c19 : w4.cell? ⟨b, 19, none⟩ = some (.bool false) := by rw [c19, <- hqq]
  clear htp hq hqv hqq
  go_upto_region 3 with fail
  have I4 := h_ (I34.out.below (bz_drew (bz_refl _)))
  have C4 := h_ (C3.out.keep (bz_drew (bz_refl _)))
  have T4 := h_ (T34.out.below (bz_drew (bz_refl _)))
  have R4 := h_ (own_below R34.out (bz_drew (bz_refl _)))
  clear c19
  refine wp_region_held_drew (S := fun W => CB W bx 30 (uCells pv2 ub)) (by kernel_rfl) (by first | exact C3.out.keep (bz_drew (bz_refl _)) | exact C6.out | exact C5.out) (fun hHeld => ?_)
  refine tk 0 (v := ?_) rfl (by kernel_rfl) (by kernel_rfl) (by kernel_rfl) (fun _ _ _ h => h) (by rfl) (by assumption) (fun wS hSw => ?_) ?_
  rotate_left
  ·(try dsimp only at hSw); go_simp; first | done | with_reducible rfl
  try simp only [Act.put, List.setIfInBounds_toArray, List.set_cons_zero, List.set_cons_succ]
  refine tk 1 (v := ?_) rfl (by kernel_rfl) (by kernel_rfl) (by kernel_rfl) (fun _ _ _ h => h) (by rfl) (by assumption) (fun wS hSw => ?_) ?_
  rotate_left
  ·(try dsimp only at hSw); go_simp; first | done | with_reducible rfl
  try simp only [Act.put, List.setIfInBounds_toArray, List.set_cons_zero, List.set_cons_succ]
  refine tk 2 (v := ?_) rfl (by kernel_rfl) (by kernel_rfl) (by kernel_rfl) (fun _ _ _ h => h) (by rfl) (by assumption) (fun wS hSw => ?_) ?_
  rotate_left
  ·(try dsimp only at hSw); go_simp; first | done | with_reducible rfl
  try simp only [Act.put, List.setIfInBounds_toArray, List.set_cons_zero, List.set_cons_succ]
  refine tk 3 (v := ?_) rfl (by kernel_rfl) (by kernel_rfl) (by kernel_rfl) (fun _ _ _ h => h) (by rfl) (by assumption) (fun wS hSw => ?_) ?_
  rotate_left
  ·(try dsimp only at hSw)
   refine load1_exec 4 (.tmp 17) ?_ bx 19 (.bool ub.hasQ) _ Tryz.underlying4 rfl ?_ ?_
   ·rfl
   ·rfl
   ·exact hSw.cell_is UA.out.hasQ
  try simp only [Act.put, List.setIfInBounds_toArray, List.set_cons_zero, List.set_cons_succ]
  refine tk 4 (v := ?_) rfl (by kernel_rfl) (by kernel_rfl) (by kernel_rfl) (fun _ _ _ h => h) (by rfl) (by assumption) (fun wS hSw => ?_) ?_
  rotate_left
  ·(try dsimp only at hSw); go_simp; first | done | with_reducible rfl
  try simp only [Act.put, List.setIfInBounds_toArray, List.set_cons_zero, List.set_cons_succ]
  refine tk 5 (v := ?_) rfl (by kernel_rfl) (by kernel_rfl) (by kernel_rfl) (fun _ _ _ h => h) (by rfl) (by assumption) (fun wS hSw => ?_) ?_
  rotate_left
  ·(try dsimp only at hSw)
   refine load1_exec 9 (.tmp 19) ?_ bx 20 (S ub.q) _ Tryz.underlying9 rfl ?_ ?_
   ·rfl
   ·rfl
   ·exact hSw.cell_is UA.out.q
  try simp only [Act.put, List.setIfInBounds_toArray, List.set_cons_zero, List.set_cons_succ]
  refine tk 6 (v := ?_) rfl (by kernel_rfl) (by kernel_rfl) (by kernel_rfl) (fun _ _ _ h => h) (by rfl) (by assumption) (fun wS hSw => ?_) ?_
  rotate_left
  ·(try dsimp only at hSw); go_simp; first | done | with_reducible rfl
  try simp only [Act.put, List.setIfInBounds_toArray, List.set_cons_zero, List.set_cons_succ]
  refine tk 7 (v := ?_) rfl (by kernel_rfl) (by kernel_rfl) (by kernel_rfl) (fun _ _ _ h => h) (by rfl) (by assumption) (fun wS hSw => ?_) ?_
  rotate_left
  ·(try dsimp only at hSw); go_simp; first | done | with_reducible rfl
  try simp only [Act.put, List.setIfInBounds_toArray, List.set_cons_zero, List.set_cons_succ]
  refine rn 8 (by kernel_rfl) rfl (by rfl) (fun K hK => ?_)
  refine put1_wp 4 (.tmp 22) (.tmp 18) rfl w0 b 30 (uCells v3 { u with path := ub.path }) I4.out 19 (.bool ub.hasQ) rfl rfl (u_lt H8.out (by decide)) one_info.2.2 rfl (uCells v3 { u with path := ub.path, hasQ := ub.hasQ }) ((uPut v3 { u with path := ub.path } H8.out).hasQ _) ?_
  intro x5 i1 t1
  have I5 := h_ i1; have C5 := h_ (t1.cb C4.out hne); have T5 := h_ (T4.out.trans t1); have R5 := h_ (t1.row R4.out hbw)
  clear i1 t1
  refine hK.out _ _ ?_ (fun hHeld => ?_)
  ·first | exact C3.out.keep (bz_drew (bz_refl _)) | exact C6.out | exact C5.out
  clear hK K
  try simp only [Act.put]
  refine tk 9 (v := ?_) rfl (by kernel_rfl) (by kernel_rfl) (by kernel_rfl) (fun _ _ _ h => h) (by rfl) (by assumption) (fun wS hSw => ?_) ?_
  rotate_left
  ·(try dsimp only at hSw); go_simp; first | done | with_reducible rfl
  try simp only [Act.put, List.setIfInBounds_toArray, List.set_cons_zero, List.set_cons_succ]
  refine tk 10 (v := ?_) rfl (by kernel_rfl) (by kernel_rfl) (by kernel_rfl) (fun _ _ _ h => h) (by rfl) (by assumption) (fun wS hSw => ?_) ?_
  rotate_left
  ·(try dsimp only at hSw); go_simp; first | done | with_reducible rfl
  try simp only [Act.put, List.setIfInBounds_toArray, List.set_cons_zero, List.set_cons_succ]
  refine rn 11 (by kernel_rfl) rfl (by rfl) (fun K hK => ?_)
  refine put1_wp 9 (.tmp 24) (.tmp 20) rfl w0 b 30 (uCells v3 { u with path := ub.path, hasQ := ub.hasQ }) I5.out 20 (S ub.q) rfl rfl (u_lt H8.out (by decide)) one_info.1 rfl (uCells v3 { u with path := ub.path, hasQ := ub.hasQ, q := ub.q }) ((uPut v3 { u with path := ub.path, hasQ := ub.hasQ } H8.out).q _) ?_
  intro x6 i1 t1
  have I6 := h_ i1; have C6 := h_ (t1.cb C5.out hne); have T6 := h_ (T5.out.trans t1); have R6 := h_ (t1.row R5.out hbw)
  clear i1 t1
  refine hK.out _ _ ?_ (fun hHeld => ?_)
  ·first | exact C3.out.keep (bz_drew (bz_refl _)) | exact C6.out | exact C5.out
  clear hK K
  try simp only [Act.put]
  refine wpAnyH_done (by kernel_rfl) ?_ _
  go_wp2_with fail
  go_end0
  exact ⟨rfl, _, (by rw [HTP.out]; exact I6.out), R6.out, T6.out⟩
end Go.Proofs.YtpckaimpjccjhaaGreatDoor
