/- SixS SixT PctF PctG: joined. -/
import Derived.Test.YtgfklkfbccknoaaGreatDoorGSixA
import Derived.StillTailTactics
import Derived.BigQuiet
import Derived.Test.YtgfklkfbccknoaaGreatDoorGPctE
import Derived.Test.YtgfklkfbccknoaaGreatDoorGReg
/- The reference's numbers of layer 10. -/
namespace Go.Proofs.YtgfklkfbccknoaaGreatDoor
open Go.RowKit
set_option maxRecDepth 10000

/-- what a function answers that makes a row of numbers, or none -/
def RetV (w : World) (o : Option (List Int)) : Ending → World → Prop := fun e w' => (match o with | some l => ∃ v, e = .returned (.tuple #[v, .bool true]) ∧ w'.ownsRow w.heap.size 3 1 v l.length (I64s l) | none => e = .returned (.tuple #[.slice none 0 0, .bool false])) ∧ Below w.heap.size w w'
theorem RetV.none {w w' : World} {o : Option (List Int)} (h : o = none) (hb : Below w.heap.size w w') : RetV w o (.returned (.tuple #[.slice none 0 0, .bool false])) w' := by subst h; exact ⟨rfl, hb⟩
theorem RetV.some {w w' : World} {o : Option (List Int)} {l : List Int} {v : Value} (h : o = some l) (hv : w'.ownsRow w.heap.size 3 1 v l.length (I64s l)) (hb : Below w.heap.size w w') : RetV w o (.returned (.tuple #[v, .bool true])) w' := by subst h; exact ⟨⟨v, rfl, hv⟩, hb⟩
theorem four_of {α : Type} {l : List α} (h : l.length = 4) : ∃ a b c d, l = [a, b, c, d] := by
  rcases l with _ | ⟨a, _ | ⟨b, _ | ⟨c, _ | ⟨d, _ | ⟨e, r⟩⟩⟩⟩⟩ <;> simp at h
  exact ⟨a, b, c, d, rfl⟩
def fo4 : List Int → Option (Int × Int)
  | [a, b, c, d] => some (256 * a + b, 256 * c + d)
  | _ => none
theorem fo4_not {vs : List Int} (h : vs.length ≠ 4) : fo4 vs = none := by
  unfold fo4
  split
  · simp at h
  · rfl
theorem fnL_not {ps : List Bytes} (h : ps.length ≠ 4) : fnL ps = none := by
  unfold fnL
  split
  · simp at h
  · rfl
theorem fnL_four (p q r t : Bytes) : fnL [p, q, r, t] = match dc8F p with | none => none | some a => match dc8F q with | none => none | some b => match dc8F r with | none => none | some c => match dc8F t with | none => none | some d => some (256 * a + b, 256 * c + d) := rfl
/-- the numbers of the pieces -/
theorem fnL_some {ps : List Bytes} {vs : List Int} (h : ps.map dc8F = vs.map some) : fnL ps = fo4 vs := by
  have hl : ps.length = vs.length := by have := congrArg List.length h; simpa using this
  by_cases h4 : vs.length = 4
  · obtain ⟨a, b, c, d, rfl⟩ := four_of h4
    obtain ⟨p, q, r, t, rfl⟩ := four_of (hl.trans h4)
    simp only [List.map_cons, List.map_nil, List.cons.injEq, and_true] at h
    obtain ⟨h1, h2, h3, h4⟩ := h
    rw [fnL_four, h1, h2, h3, h4]
    rfl
  · rw [fo4_not h4, fnL_not (by omega)]
theorem fnL_none {ps : List Bytes} {p : Bytes} (hp : p ∈ ps) (h : dc8F p = none) : fnL ps = none := by
  by_cases h4 : ps.length = 4
  · obtain ⟨a, b, c, d, rfl⟩ := four_of h4
    simp only [List.mem_cons, List.not_mem_nil, or_false] at hp
    rw [fnL_four]
    rcases hp with rfl | rfl | rfl | rfl
    · rw [h]
    · rw [h]; cases dc8F a <;> rfl
    · rw [h]; cases dc8F a <;> cases dc8F b <;> rfl
    · rw [h]; cases dc8F a <;> cases dc8F b <;> cases dc8F c <;> rfl
  · exact fnL_not h4
theorem own_two {B : Nat} {w : World} (h : B ≤ w.heap.size) (x y : Int) : (w.alloc (.cells #[.int .i64 x, .int .i64 y] 3)).ownsRow B 3 1 (.slice (some ⟨w.heap.size, 0, none⟩) 2 2) [x, y].length (I64s [x, y]) :=
  ⟨rfl, .inr ⟨w.heap.size, 2, _, rfl, h, heap_alloc_new w _, Nat.le_refl _, by unfold maxLen; omega, rfl, rfl⟩⟩
theorem i64_snoc (o : List Int) (n : Int) : I64s (o ++ [n]) = I64s o ++ [.int .i64 n] := by simp
set_option maxHeartbeats 8000000 in
theorem rnumbers_any (l : Bytes) (w : World) (hl : l.length ≤ 100000) : Calls Tryz.prog 74 #[.string (bs l)] w (RetV w ((fnF l).map fun v => [v.1, v.2])) := by
  obtain ⟨i1, hi1, hz1, hz2, hz3⟩ := info_parts i64_info
  have hcu := fun W => rcut_any l 46 W hl
  have hpl : ∀ p ∈ cutC 46 l, p.length ≤ 1000000 := fun p hp => by have := (cutC_piece 46 l p hp).1; omega
  have hcl := cutC_len 46 l
  have hcn : cutC 46 l ≠ [] := by obtain ⟨p, q, h⟩ := cutC_ne 46 l; rw [h]; simp
  unfold fnF
  rw [show b2 46 = 46 from by decide] at hcu
  obtain ⟨ps, hps⟩ : ∃ ps, ps = cutC 46 l := ⟨_, rfl⟩
  rw [← hps] at hcu hpl hcl hcn ⊢
  clear hps
  obtain ⟨R, hR⟩ : ∃ R, R = (fnL ps).map fun v => [v.1, v.2] := ⟨_, rfl⟩
  rw [← hR]
  obtain ⟨N, hN⟩ : ∃ N, N = ps.length := ⟨_, rfl⟩
  have hN0 : N ≠ 0 := fun h => hcn (List.eq_nil_of_length_eq_zero (by omega))
  have hNm : N ≤ 100001 := by omega
  have hsl : ∀ (w2 : World) (v : Value), Sl w2.heap.size w2 v (ps.map S) → ∃ b o c, v = .slice (some ⟨b, o, none⟩) N c ∧ b < w2.heap.size ∧ ∀ k (hk : k < ps.length), w2.cell? ⟨b, o + k, none⟩ = some (.string (bs ps[k])) := by
    intro w2 v h
    obtain ⟨a, c, rfl⟩ := slice_val h
    rw [List.length_map, ← hN] at h
    obtain ⟨b, o, rfl, hb, hc⟩ := strs_at h 0 (by omega)
    refine ⟨b, o, c, by rw [List.length_map, ← hN], hb, fun k hk => ?_⟩
    obtain ⟨b', o', he, _, hc'⟩ := strs_at h k hk
    injection he with he; injection he with e1 e2
    rw [e1, e2]; exact hc'
  have hrn : ∀ k (hk : k < ps.length), dc8F ps[k] = none → R = none := fun k hk h => by rw [hR, fnL_none (List.getElem_mem hk) h]; rfl
  have hrs : ∀ vs : List Int, ps.map dc8F = vs.map some → R = (fo4 vs).map fun v => [v.1, v.2] := fun vs h => by
    rw [hR, fnL_some h]
  clear hR hcl hcn
  obtain ⟨s, hs⟩ : ∃ s, s = bs l := ⟨_, rfl⟩
  rw [← hs] at hcu ⊢
  clear hs hl
  have HCU := Lib.hid hcu; clear hcu
  have HPL := Lib.hid hpl; clear hpl
  have HSL := Lib.hid hsl; clear hsl
  have HRN := Lib.hid hrn; clear hrn
  have HRS := Lib.hid hrs; clear hrs
  have HN := Lib.hid hN; clear hN
  go_enter Tryz.func74, Tryz.ntmps74
  go_wp2_with fail
  refine (HCU.out _).mono ?_
  rintro e w2 ⟨v, rfl, hv, hb2⟩
  obtain ⟨b, o, c, rfl, hb, hc⟩ := HSL.out w2 v hv
  have HB2 := Lib.hid hb2; clear hb2 hv
  have HC := Lib.hid hc; clear hc
  have hz2' : w.heap.size ≤ w2.heap.size := HB2.out.size
  go_wp2_with fail
  go_loopw [5, 6] (fun vv iv wr => ∃ (k : Nat) (vs : List Int), k ≤ N ∧ iv = .int .i64 k ∧ wr.ownsRow w2.heap.size 3 1 vv k (I64s vs) ∧ Hid ((ps.take k).map dc8F = vs.map some) ∧ Hid (∀ n ∈ vs, 0 ≤ n ∧ n < 256) ∧ w2.heap.size ≤ wr.heap.size ∧ Below w2.heap.size w2 wr) (fun _ i _ => N - (intOf i).toNat)
  case atStart => exact ⟨0, [], Nat.zero_le _, by simp, ⟨rfl, .inl ⟨rfl, rfl⟩⟩, (show (ps.take 0).map dc8F = ([] : List Int).map some by simp), (show ∀ n ∈ ([] : List Int), 0 ≤ n ∧ n < 256 by simp), Nat.le_refl _, Below.refl _ _⟩
  case round =>
    obtain ⟨k, vs, hk, rfl, hown, hvs, hrg, hwz, hbl⟩ := hrel
    have HO := Lib.hid hown; clear hown
    have HB := Lib.hid hbl; clear hbl
    by_cases hlt : k < N
    · have hkl : k < ps.length := by have := HN.out; omega
      have hcell : wr.cell? ⟨b, o + k, none⟩ = some (.string (bs ps[k])) := (HB.out.cell (p := ⟨b, o + k, none⟩) hb).trans (HC.out k hkl)
      have hby := fun W => rbyte_any ps[k] W (HPL.out _ (List.getElem_mem hkl))
      have hrn := HRN.out k hkl
      have hsn : ∀ n, dc8F ps[k] = some n → (ps.take (k + 1)).map dc8F = (vs ++ [n]).map some := fun n h => by
        rw [List.take_succ_eq_append_getElem hkl, List.map_append, List.map_append, hvs.out]
        simp [h]
      have hdr := fun n (h : dc8F ps[k] = some n) => dec_range h
      obtain ⟨p, hp⟩ : ∃ p, p = ps[k] := ⟨_, rfl⟩
      rw [← hp] at hcell hby hrn hsn hdr
      clear hp
      cases hd : dc8F p with
      | none =>
        rw [hd] at hby
        have HRX := Lib.hid (hrn hd); clear hrn hsn hdr hd
        have HBY := Lib.hid hby; clear hby
        go_wp2_with (first | (go_at_call 106; refine (HBY.out _).mono ?_; rintro e w3 ⟨⟨m, rfl, hm⟩, hw3⟩; subst hw3) | fail)
        go_ret2
        exact RetV.none HRX.out (HB2.out.trans (HB.out.mono hz2'))
      | some n =>
        rw [hd] at hby
        have hrn2 : ∀ x ∈ vs ++ [n], 0 ≤ x ∧ x < 256 := by
          intro x hx
          rcases List.mem_append.mp hx with hx | hx
          · exact hrg.out x hx
          · have := hdr n hd
            simp at hx; subst hx; exact this
        have HSN := Lib.hid (hsn n hd)
        have HRG := Lib.hid hrn2
        clear hrn hsn hdr hd hrn2 hrg hvs
        have HBY := Lib.hid hby; clear hby
        have hao := i64_snoc vs n
        have HAO := Lib.hid hao; clear hao
        go_wp2_with (first
          | (go_at_call 106; refine (HBY.out _).mono ?_; rintro e w3 ⟨⟨m, rfl, hm⟩, hw3⟩; have hmn : n = m := (hm n rfl).symm; subst hmn; clear hm; subst hw3)
          | (at_builtin; (refine push1 rfl (.tmp 27) (.tmp 29) _ rfl w2.heap.size 3 i1 (.int .i64 0) 8 Tryz.underlying64 hi1 hz1 hz2 hz3 (by decide) _ _ _ (I64s vs) rfl HO.out (.int .i64 _) rfl rfl (by omega) (by decide) (by omega) ?_); intro v6 w6 hown6 hw6 hb6; have HO6 := Lib.hid hown6; clear hown6; have HB6 := Lib.hid (HB.out.trans hb6); clear hb6)
          | fail)
        go_roundw
        case rel =>
          refine ⟨k + 1, vs ++ [n], by omega, by simp, ?_, HSN.out, HRG.out, by omega, HB6.out⟩
          rw [HAO.out]
          exact HO6.out
        case measure => simp [intOf]; omega
    · obtain rfl : k = N := by omega
      have hrs := HRS.out vs (by have := hvs.out; rwa [List.take_of_length_le (by have := HN.out; omega)] at this)
      obtain ⟨av, cv, hv⟩ := own_val HO.out
      subst hv
      have hvl : k = vs.length := by have := HO.out.1; rw [List.length_map] at this; omega
      by_cases h4 : k = 4
      · subst h4
        obtain ⟨a, b', c', d, rfl⟩ := four_of hvl.symm
        have ra := hrg.out a (by simp)
        have rb := hrg.out b' (by simp)
        have rc := hrg.out c' (by simp)
        have rd := hrg.out d (by simp)
        have hRs : R = some [256 * a + b', 256 * c' + d] := hrs
        have HRX := Lib.hid hRs; clear hRs hrs hrg hvs hvl
        rcases own_where HO.out with ⟨e, _⟩ | ⟨g, cap, e, hg1, hg2, hcs⟩
        · injection e with e1 e2; omega
        · injection e with e1 e2 e3
          subst e1 e3
          have c0 := hcs 0 (by simp)
          have c1 := hcs 1 (by simp)
          have c2 := hcs 2 (by simp)
          have c3 := hcs 3 (by simp)
          simp only [Nat.zero_add, List.map_cons, List.getElem_cons_zero, List.getElem_cons_succ] at c0 c1 c2 c3
          have w1 : IntKind.i64.wrap (256 * a) = 256 * a := IntWalk.i64_in _ (by omega)
          have w2' : IntKind.i64.wrap (256 * a + b') = 256 * a + b' := IntWalk.i64_in _ (by omega)
          have w3 : IntKind.i64.wrap (256 * c') = 256 * c' := IntWalk.i64_in _ (by omega)
          have w4 : IntKind.i64.wrap (256 * c' + d) = 256 * c' + d := IntWalk.i64_in _ (by omega)
          clear HO hcs
          go_upto_region 12 with fail
          go_still_tail 16, (by kernel_rfl)
          have HBD := Lib.hid (HB2.out.trans (HB.out.mono hz2')).drew
          change wpList _ _ _ _ _ wr.drew
          obtain ⟨wd, hwd⟩ : ∃ wd, wd = wr.drew := ⟨_, rfl⟩
          rw [← hwd] at HBD ⊢
          clear hwd c0 c1 c2 c3
          go_wp2_with fail
          go_ret2
          exact RetV.some HRX.out (own_two HBD.out.size _ _) (HBD.out.alloc HBD.out.size _)
      · have hRn : R = none := by rw [hrs, fo4_not (by omega)]; rfl
        have HRX := Lib.hid hRn; clear hRn hrs
        have h4' : ((k : Int) == 4) = false := by simp; omega
        clear hvl
        go_wp2_with fail
        go_ret2
        exact RetV.none HRX.out (HB2.out.trans (HB.out.mono hz2'))
end Go.Proofs.YtgfklkfbccknoaaGreatDoor

/- The reference's row of layer 10. -/
namespace Go.Proofs.YtgfklkfbccknoaaGreatDoor
open Go.RowKit
set_option maxRecDepth 10000

/-- 'append(s, x...)', s the call's own, x a slice of one-cell elements -/
theorem pushV {P : Program} {ops : Array Oper} {rest : List Oper} {o : Oper} {a : Act} {Q : Exit → Act → World → Prop} (hgd : o.guard = none) (s x : Operand) (t : TypeId)
    (ho : o.op = .call { callee := .builtin .append, args := #[s, x], argTypes := #[t, t] })
    (base : Nat) (e : TypeId) (i : TypeInfo) (z : Value) (bytes : Nat) (ht : P.underlying t = some (.slice e)) (hi : P.info? e = some i) (hz : i.zero = some z)
    (hsize : i.size = 1) (hby : i.bytes = bytes) (hzs : z.cells.size = 1) (w : World)
    (v : Value) (n : Nat) (xs : List Value) (hs : a.eval s = v) (hown : w.ownsRow base e 1 v n xs) (ys : List Value) (b o2 c m : Nat) (hm : m = ys.length) (hx : a.eval x = .slice (some ⟨b, o2, none⟩) m c) (hat : At w b o2 ys) (h1 : ∀ u ∈ ys, u.oneCell' = true)
    (h63 : n + m ≤ 1099511627776) (hbytes : bytes ≤ 64) (hbase : base ≤ w.heap.size)
    (h : ∀ v' w', w'.ownsRow base e 1 v' (n + m) (xs ++ ys) → w.heap.size ≤ w'.heap.size → Below base w w' → wpList P ops Q rest (a.put o.dst v') w') :
    wpList P ops Q (o :: rest) a w := by
  subst hm
  refine wpList_append_own _ hgd s x t ho base e i z 1 bytes ht hi hz hsize hby hzs (by decide) v n xs hs hown ⟨b, o2, none⟩ ys.length c ys hx (by simp) ?_ h1 ?_ ?_ hbase ?_
  · intro j u hj
    have hjl : j < ys.length := (List.getElem?_eq_some_iff.mp hj).1
    rw [addr_add, hat j hjl, ← List.getElem?_eq_getElem hjl, hj]
  · unfold maxLen; omega
  · have : (n + ys.length) * bytes ≤ (n + ys.length) * 64 := Nat.mul_le_mul_left _ hbytes
    omega
  · intro v' w' ho' hg _
    exact h v' w' ho' hg.size ((Below.refl _ _).grown hg hbase (fun k hk => (hown.lt k hk).1))
theorem own_less {w : World} {B C e n : Nat} {v : Value} {xs : List Value} (h : w.ownsRow C e 1 v n xs) (hB : B ≤ C) : w.ownsRow B e 1 v n xs := by
  refine ⟨h.1, ?_⟩
  rcases h.2 with h | ⟨g, cap, cur, a1, a2, a3⟩
  · exact .inl h
  · exact .inr ⟨g, cap, cur, a1, Nat.le_trans hB a2, a3⟩
theorem own_at {w : World} {B e n : Nat} {v : Value} {xs : List Value} (h : w.ownsRow B e 1 v n xs) (hx : xs ≠ []) : ∃ g c, v = .slice (some ⟨g, 0, none⟩) n c ∧ At w g 0 xs := by
  rcases own_where h with ⟨_, h⟩ | ⟨g, c, hv, _, _, hat⟩
  · exact absurd h hx
  · exact ⟨g, c, hv, hat⟩
def rrowF (nums : Bool) (s : Bytes) : Option (List Int) := if s = [] then some [] else rowP nums (cutC 58 s)
theorem rowP_hit {nums : Bool} {ps : List Bytes} {k : Nat} (hk : k < ps.length) {n : Int} (h : pieceF ps[k] = some n) : rowP nums (ps.drop k) = (rowP nums (ps.drop (k + 1))).map (n :: ·) := by
  rw [List.drop_eq_getElem_cons hk]
  by_cases h1 : k + 1 < ps.length
  · rw [List.drop_eq_getElem_cons h1]
    show (match pieceF ps[k] with | none => none | some n => (rowP nums (ps[k + 1] :: ps.drop (k + 1 + 1))).map (n :: ·)) = _
    rw [h]
  · rw [List.drop_of_length_le (by omega)]
    show endP nums ps[k] = _
    rw [endP_ref, h]
    rfl
theorem rowP_miss {nums : Bool} {ps : List Bytes} {k : Nat} (hk : k < ps.length) (h : pieceF ps[k] = none) : rowP nums (ps.drop k) = if k + 1 = ps.length ∧ nums = true then (fnF ps[k]).map (fun v => [v.1, v.2]) else none := by
  rw [List.drop_eq_getElem_cons hk]
  by_cases h1 : k + 1 < ps.length
  · rw [List.drop_eq_getElem_cons h1, if_neg (by omega)]
    show (match pieceF ps[k] with | none => none | some n => (rowP nums (ps[k + 1] :: ps.drop (k + 1 + 1))).map (n :: ·)) = _
    rw [h]
  · rw [List.drop_of_length_le (by omega)]
    show endP nums ps[k] = _
    rw [endP_ref, h]
    cases nums
    · simp
    · rw [if_pos (show k + 1 = ps.length ∧ true = true from ⟨by omega, rfl⟩)]; rfl
set_option maxHeartbeats 20000000 in
theorem rrow_any (l : Bytes) (nums : Bool) (w : World) (hl : l.length ≤ 90000) : Calls Tryz.prog 45 #[.string (bs l), .bool nums] w (RetV w (rrowF nums l)) := by
  obtain ⟨i1, hi1, hz1, hz2, hz3⟩ := info_parts i64_info
  obtain ⟨R, hR⟩ : ∃ R, R = rrowF nums l := ⟨_, rfl⟩
  rw [← hR]
  unfold rrowF at hR
  by_cases hnil : l = []
  · rw [if_pos hnil] at hR
    obtain ⟨s, hs⟩ : ∃ s, s = bs l := ⟨_, rfl⟩
    have he2 : s.toList = [] := by rw [hs, toList_bs, hnil]
    have he : s.toList.isEmpty = true := by rw [he2]; rfl
    rw [← hs]
    clear hs hnil hl
    have HR := Lib.hid hR; clear hR
    go_enter Tryz.func45, Tryz.ntmps45
    go_wp2_with fail
    go_ret2
    exact RetV.some HR.out ⟨rfl, .inl ⟨rfl, rfl⟩⟩ (Below.refl _ _)
  rw [if_neg hnil] at hR
  have he2 : ¬ (bs l).toList = [] := by rw [toList_bs]; exact hnil
  have he : (bs l).toList.isEmpty = false := by rw [toList_bs]; simpa using hnil
  have hcu := fun W => rcut_any l 58 W (by omega)
  have hpl : ∀ p ∈ cutC 58 l, p.length ≤ 100000 := fun p hp => by have := (cutC_piece 58 l p hp).1; omega
  have hcl := cutC_len 58 l
  have hcn : cutC 58 l ≠ [] := by obtain ⟨p, q, h⟩ := cutC_ne 58 l; rw [h]; simp
  rw [show b2 58 = 58 from by decide] at hcu
  obtain ⟨ps, hps⟩ : ∃ ps, ps = cutC 58 l := ⟨_, rfl⟩
  rw [← hps] at hcu hpl hcl hcn hR
  clear hps hnil
  obtain ⟨N, hN⟩ : ∃ N, N = ps.length := ⟨_, rfl⟩
  have hN0 : N ≠ 0 := fun h => hcn (List.eq_nil_of_length_eq_zero (by omega))
  have hNm : N ≤ 100001 := by omega
  have hsl : ∀ (w2 : World) (v : Value), Sl w2.heap.size w2 v (ps.map S) → ∃ b o c, v = .slice (some ⟨b, o, none⟩) N c ∧ b < w2.heap.size ∧ ∀ k (hk : k < ps.length), w2.cell? ⟨b, o + k, none⟩ = some (.string (bs ps[k])) := by
    intro w2 v h
    obtain ⟨a, c, rfl⟩ := slice_val h
    rw [List.length_map, ← hN] at h
    obtain ⟨b, o, rfl, hb, hc⟩ := strs_at h 0 (by omega)
    refine ⟨b, o, c, by rw [List.length_map, ← hN], hb, fun k hk => ?_⟩
    obtain ⟨b', o', he, _, hc'⟩ := strs_at h k hk
    injection he with he; injection he with e1 e2
    rw [e1, e2]; exact hc'
  obtain ⟨s, hs⟩ : ∃ s, s = bs l := ⟨_, rfl⟩
  rw [← hs] at hcu he he2 ⊢
  clear hs hl hcl hcn
  have HCU := Lib.hid hcu; clear hcu
  have HPL := Lib.hid hpl; clear hpl
  have HSL := Lib.hid hsl; clear hsl
  have HR := Lib.hid hR; clear hR
  have HN := Lib.hid hN; clear hN
  go_enter Tryz.func45, Tryz.ntmps45
  go_wp2_with fail
  refine (HCU.out _).mono ?_
  rintro e w2 ⟨v, rfl, hv, hb2⟩
  obtain ⟨b, o, c, rfl, hb, hc⟩ := HSL.out w2 v hv
  have HB2 := Lib.hid hb2; clear hb2 hv
  have HC := Lib.hid hc; clear hc
  have hz2' : w.heap.size ≤ w2.heap.size := HB2.out.size
  go_wp2_with fail
  go_loopw [7, 8] (fun vv iv wr => ∃ (k : Nat) (a : List Int), k ≤ N ∧ iv = .int .i64 k ∧ wr.ownsRow w2.heap.size 3 1 vv a.length (I64s a) ∧ a.length ≤ 2 * k ∧ Hid ((rowP nums (ps.drop k)).map (a ++ ·) = R) ∧ w2.heap.size ≤ wr.heap.size ∧ Below w2.heap.size w2 wr) (fun _ i _ => N - (intOf i).toNat)
  case atStart => exact ⟨0, [], Nat.zero_le _, by simp, ⟨rfl, .inl ⟨rfl, rfl⟩⟩, by simp, (show (rowP nums (ps.drop 0)).map ([] ++ ·) = R by rw [HR.out]; simp), Nat.le_refl _, Below.refl _ _⟩
  case round =>
    obtain ⟨k, a, hk, rfl, hown, hak, hinv, hwz, hbl⟩ := hrel
    have HO := Lib.hid hown; clear hown
    have HB := Lib.hid hbl; clear hbl
    by_cases hlt : k < N
    · have hkl : k < ps.length := by have := HN.out; omega
      have hcell : wr.cell? ⟨b, o + k, none⟩ = some (.string (bs ps[k])) := (HB.out.cell (p := ⟨b, o + k, none⟩) hb).trans (HC.out k hkl)
      have hpm := HPL.out _ (List.getElem_mem hkl)
      have hpi := fun W => rpiece_any ps[k] W (by omega)
      have hnu := fun W => rnumbers_any ps[k] W hpm
      have hhit := fun n (h : pieceF ps[k] = some n) => rowP_hit (nums := nums) hkl h
      have hmiss := fun (h : pieceF ps[k] = none) => rowP_miss (nums := nums) hkl h
      obtain ⟨p, hp⟩ : ∃ p, p = ps[k] := ⟨_, rfl⟩
      rw [← hp] at hcell hpi hnu hhit hmiss
      clear hp hpm
      rw [← HN.out] at hmiss
      obtain ⟨al, hal⟩ : ∃ al, al = a.length := ⟨_, rfl⟩
      have ho := HO.out
      rw [← hal] at ho hak
      have HO := Lib.hid ho; clear ho
      have HAL := Lib.hid hal; clear hal
      cases hd : pieceF p with
      | some n =>
        rw [hd] at hpi
        have hi2 : (rowP nums (ps.drop (k + 1))).map ((a ++ [n]) ++ ·) = R := by
          have := hinv.out
          rw [hhit n hd] at this
          rw [← this]
          cases rowP nums (ps.drop (k + 1)) <;> simp
        have HI2 := Lib.hid hi2
        clear hi2 hinv hhit hmiss hnu hd
        have HPI := Lib.hid hpi; clear hpi
        have hao := i64_snoc a n
        have HAO := Lib.hid hao; clear hao
        go_wp2_with (first
          | (go_at_call 73; refine (HPI.out _).mono ?_; rintro e w3 ⟨rfl, hw3⟩; subst hw3)
          | (at_builtin; (refine push1 rfl (.tmp 32) (.tmp 34) _ rfl w2.heap.size 3 i1 (.int .i64 0) 8 Tryz.underlying64 hi1 hz1 hz2 hz3 (by decide) _ _ _ (I64s a) rfl HO.out (.int .i64 _) rfl rfl (by omega) (by decide) (by omega) ?_); intro v6 w6 hown6 hw6 hb6; have HO6 := Lib.hid hown6; clear hown6; have HB6 := Lib.hid (HB.out.trans hb6); clear hb6)
          | fail)
        go_roundw
        case rel =>
          refine ⟨k + 1, a ++ [n], by omega, by simp, ?_, by rw [List.length_append, ← HAL.out]; simp; omega, HI2.out, by omega, HB6.out⟩
          rw [HAO.out, List.length_append, ← HAL.out]
          exact HO6.out
        case measure => simp [intOf]; omega
      | none =>
        rw [hd] at hpi
        have hm := hmiss hd
        have hi1' := hinv.out
        rw [hm] at hi1'
        clear hinv hhit hmiss hd hm
        have HPI := Lib.hid hpi; clear hpi
        have hw1 : IntKind.i64.wrap ((N : Int) - 1) = (N : Int) - 1 := IntWalk.i64_in _ (by omega)
        by_cases hgo : k + 1 = N ∧ nums = true
        · rw [if_pos hgo] at hi1'
          obtain ⟨hkN, rfl⟩ := hgo
          have hkn : ¬ (k : Int) < (N : Int) - 1 := by omega
          cases hf : fnF p with
          | none =>
            rw [hf] at hnu hi1'
            have HRX := Lib.hid (show R = none from hi1'.symm)
            change ∀ W, Calls _ _ _ W fun e w' => e = .returned (.tuple #[.slice none 0 0, .bool false]) ∧ Below W.heap.size W w' at hnu
            have HNU := Lib.hid hnu; clear hnu hi1' hf
            go_wp2_with (first
              | (go_at_call 73; refine (HPI.out _).mono ?_; rintro e w3 ⟨rfl, hw3⟩; subst hw3)
              | (go_at_call 74; refine (HNU.out _).mono ?_; rintro e w4 ⟨rfl, hb4⟩; have HB4 := Lib.hid (HB.out.trans (hb4.mono hwz)); clear hb4)
              | fail)
            go_ret2
            exact RetV.none HRX.out (HB2.out.trans (HB4.out.mono hz2'))
          | some v =>
            rw [hf] at hnu hi1'
            obtain ⟨v1, v2⟩ := v
            have hR2 : some (a ++ [v1, v2]) = R := hi1'
            change ∀ W, Calls _ _ _ W fun e w' => (∃ x, e = .returned (.tuple #[x, .bool true]) ∧ w'.ownsRow W.heap.size 3 1 x 2 (I64s [v1, v2])) ∧ Below W.heap.size W w' at hnu
            have HNU := Lib.hid hnu; clear hnu hi1' hf
            have HI2 := Lib.hid (show (rowP true (ps.drop (k + 1))).map ((a ++ [v1, v2]) ++ ·) = R by
              rw [List.drop_of_length_le (by have := HN.out; omega), ← hR2]
              show some ((a ++ [v1, v2]) ++ []) = _
              rw [List.append_nil])
            clear hR2
            have hao : I64s a ++ I64s [v1, v2] = I64s (a ++ [v1, v2]) := by simp
            have HAO := Lib.hid hao; clear hao
            have HKN := Lib.hid hkN; clear hkN
            go_wp2_with (first
              | (go_at_call 73; refine (HPI.out _).mono ?_; rintro e w3 ⟨rfl, hw3⟩; subst hw3)
              | (go_at_call 74; refine (HNU.out _).mono ?_; rintro e w4 ⟨⟨x, rfl, ho4⟩, hb4⟩; obtain ⟨g4, c4, rfl, hat4⟩ := own_at ho4 (by simp); have HAT := Lib.hid hat4; have HO4 := Lib.hid (own_below HO.out hb4); have hz4 := hb4.size; have HB4 := Lib.hid (HB.out.trans (hb4.mono hwz)); clear hb4 ho4 hat4)
              | (at_builtin; (refine pushV rfl (.tmp 57) (.tmp 58) _ rfl w2.heap.size 3 i1 (.int .i64 0) 8 Tryz.underlying64 hi1 hz1 hz2 hz3 (by decide) _ _ _ (I64s a) rfl HO4.out (I64s [v1, v2]) g4 0 c4 2 rfl rfl HAT.out (i64s_one _) (by omega) (by decide) (by omega) ?_); intro v6 w6 hown6 hw6 hb6; have HO6 := Lib.hid hown6; clear hown6; have HB6 := Lib.hid (HB4.out.trans hb6); clear hb6)
              | fail)
            go_roundw
            case rel =>
              refine ⟨k + 1, a ++ [v1, v2], by omega, by simp, ?_, by rw [List.length_append, ← HAL.out]; simp; omega, HI2.out, by omega, HB6.out⟩
              rw [← HAO.out, List.length_append, ← HAL.out]
              exact HO6.out
            case measure => simp [intOf]; omega
        · rw [if_neg hgo] at hi1'
          have HRX := Lib.hid (show R = none from hi1'.symm)
          have hbad : nums = false ∨ (nums = true ∧ (k : Int) < (N : Int) - 1) := by
            cases nums
            · exact .inl rfl
            · refine .inr ⟨rfl, ?_⟩
              rcases Nat.lt_or_ge (k + 1) N with h | h
              · omega
              · exact absurd ⟨by omega, rfl⟩ hgo
          have HNU := Lib.hid (show ∀ W, Calls Tryz.prog 74 #[.string (bs p)] W fun e w' => ∃ x q, e = .returned (.tuple #[x, .bool q]) ∧ Below W.heap.size W w' from fun W => (hnu W).mono fun e w' h => by
            obtain ⟨h1, h2⟩ := h
            cases hq : (fnF p).map (fun v => [v.1, v.2]) with
            | none => rw [hq] at h1; exact ⟨_, _, h1, h2⟩
            | some y => rw [hq] at h1; obtain ⟨x, h1, _⟩ := h1; exact ⟨_, _, h1, h2⟩)
          clear hnu hi1' hgo
          rcases hbad with rfl | ⟨rfl, hkn⟩
          all_goals
            go_wp2_with (first
              | (go_at_call 73; refine (HPI.out _).mono ?_; rintro e w3 ⟨rfl, hw3⟩; subst hw3)
              | (go_at_call 74; refine (HNU.out _).mono ?_; rintro e w4 ⟨x, q, rfl, hb4⟩; have HB4 := Lib.hid (HB.out.trans (hb4.mono hwz)); clear hb4)
              | fail)
            go_ret2
            exact RetV.none HRX.out (HB2.out.trans (HB4.out.mono hz2'))
    · obtain rfl : k = N := by omega
      have hi := hinv.out
      rw [List.drop_of_length_le (by have := HN.out; omega)] at hi
      have hRa : R = some a := by rw [← hi]; show some (a ++ []) = _; rw [List.append_nil]
      have HRX := Lib.hid hRa; clear hi hRa hinv
      go_wp2_with fail
      go_ret2
      exact RetV.some HRX.out (own_less HO.out hz2') (HB2.out.trans (HB.out.mono hz2'))
end Go.Proofs.YtgfklkfbccknoaaGreatDoor

/- The reference's Encode and Decode of layer 3. -/
namespace Go.Proofs.YtgfklkfbccknoaaGreatDoor
open Go.RowKit
set_option maxRecDepth 10000

theorem at3 (w : World) (a b c : Value) (e : TypeId) : At (w.alloc (.cells #[a, b, c] e)) w.heap.size 0 [a, b, c] := by
  intro j hj
  rw [Nat.zero_add, World.cell?_alloc_mark]
  match j, hj with
  | 0, _ => rfl
  | 1, _ => rfl
  | 2, _ => rfl
theorem one3 (a b c : Int) : ∀ u ∈ [Value.int .u8 a, .int .u8 b, .int .u8 c], u.oneCell' = true := by
  intro u hu
  simp at hu
  rcases hu with rfl | rfl | rfl <;> rfl
theorem app3 {wr : World} {B n : Nat} {v : Value} {xs : List Value} (a b c : Int) (h : wr.ownsRow B 5 1 v n xs) (hn : n ≤ 3000000) (hB : B ≤ wr.heap.size) :
    ∃ v2 w2, (Builtin.append_ #[37, 37] 37 #[v, .slice (some ⟨wr.heap.size, 0, none⟩) 3 3]).run Tryz.prog (wr.drew.alloc (.cells #[.int .u8 a, .int .u8 b, .int .u8 c] 5)) = .ok v2 w2 ∧
      w2.ownsRow B 5 1 v2 (n + 3) (xs ++ [.int .u8 a, .int .u8 b, .int .u8 c]) ∧ Below B wr w2 := by
  obtain ⟨i8, hi8, hz8, hz81, hz82⟩ := info_parts u8_info
  have hown : (wr.drew.alloc (.cells #[.int .u8 a, .int .u8 b, .int .u8 c] 5)).ownsRow B 5 1 v n xs := (own_below h (Below.refl wr.heap.size wr).drew).alloc _
  obtain ⟨v2, w2, h1, h2, h3, _⟩ := append_v (P := Tryz.prog) (wr.drew.alloc (.cells #[.int .u8 a, .int .u8 b, .int .u8 c] 5)) B 37 37 5 i8 (.int .u8 0) 1 Tryz.underlying37 hi8 hz8 hz81 hz82 (by decide) v n xs
    [.int .u8 a, .int .u8 b, .int .u8 c] hown (one3 _ _ _) (by simp; unfold maxLen; omega) (by simp; omega) (by simp; omega) (wr.heap.size + 1) (.slice (some ⟨wr.heap.size, 0, none⟩) 3 3)
    ⟨3, by simp, by unfold maxLen; omega, .inr ⟨wr.heap.size, 0, by omega, rfl, at3 wr.drew _ _ _ _⟩⟩
  exact ⟨v2, w2, h1, h2, (((Below.refl B wr).drew).alloc hB _).grown h3 (by simp; omega) (fun k hk => (hown.lt k hk).1)⟩
/-- an append whose run is known, in a region that draws its order -/
theorem append_wp {P : Program} {o : Oper} {a : Act} {K : Act → World → Prop} {Q : Exit → Act → World → Prop} {w : World} (sl x : Operand) (t u : TypeId)
    (ho : o.op = .call { callee := .builtin .append, args := #[sl, x], argTypes := #[t, u] }) (v xv v' : Value) (w' : World) (hs : a.eval sl = v) (hx : a.eval x = xv)
    (hr : (Builtin.append_ #[t, u] o.type #[v, xv]).run P w = .ok v' w') (h : K (a.put o.dst v') w') : Oper.wp P o a w K Q := by
  unfold Oper.wp execOp
  simp only [ho, resolve, invoke, builtin, Sem.run_bind, Sem.run_pure, Result.andThen_ok, List.map_toArray, List.map_cons, List.map_nil, hs, hx, hr]
  exact h
set_option maxHeartbeats 8000000 in
theorem rencode3_any (set : Int) (l : Bytes) (w : World) (hl : l.length ≤ 1000000) : Calls Tryz.prog 26 #[.string (bs l), .int .i64 set] w (RetS w (pcB set l)) := by
  obtain ⟨i8, hi8, hz8, hz81, hz82⟩ := info_parts u8_info
  obtain ⟨s, hs⟩ : ∃ s, s = bs l := ⟨_, rfl⟩
  have hsz : s.size = l.length := by rw [hs, bs_size]
  have hby : ∀ k (hk : k < s.size) (hk2 : k < l.length), ((s[k]'hk).toNat : Int) = b2 l[k] := fun k hk hk2 => str_at hs hk hk2
  rw [← hs]
  clear hs
  obtain ⟨N, hN⟩ : ∃ N, N = s.size := ⟨_, rfl⟩
  have hsN : s.size = N := hN.symm
  have hNm : N ≤ 1000000 := by omega
  have HBY := Lib.hid hby; clear hby
  have HSZ := Lib.hid (show N = l.length by omega); clear hsz hl hN
  go_enter Tryz.func26, Tryz.ntmps26
  go_wp2_with fail
  go_loopw [6, 7] (fun ov iv wr => ∃ k : Nat, k ≤ N ∧ iv = .int .i64 k ∧ Hid (wr.ownsRow w.heap.size 5 1 ov (pcB set (l.take k)).length (Lib.byteCells (pcB set (l.take k)))) ∧ w.heap.size ≤ wr.heap.size ∧ Below w.heap.size w wr) (fun _ i _ => N - (intOf i).toNat)
  case atStart => exact ⟨0, Nat.zero_le _, by simp, ⟨rfl, .inl ⟨rfl, rfl⟩⟩, Nat.le_refl _, Below.refl _ _⟩
  case round =>
    obtain ⟨k, hk, rfl, hown, hwz, hbel⟩ := hrel
    have HB := Lib.hid hbel; clear hbel
    by_cases hlt : k < N
    · have hku : k < s.size := by rw [hsN]; exact hlt
      have hkl : k < l.length := by have := HSZ.out; omega
      have hx := HBY.out k hku hkl
      have htk := pcB_take set l k hkl
      have hle := pcB_len set (l.take k)
      rw [List.length_take] at hle
      have hl1 : (pcB set (l.take k)).length ≤ 3000000 := by omega
      have hxr := b2_lt l[k]
      generalize l[k] = x at hx htk hxr
      unfold pcF at htk
      have hin := fun W => prin_any set (b2 x) W
      clear hle
      obtain ⟨al, hal⟩ : ∃ al, al = (pcB set (l.take k)).length := ⟨_, rfl⟩
      have ho := hown.out
      rw [← hal] at ho hl1
      obtain ⟨C, hC⟩ : ∃ C, C = pcB set (l.take k) := ⟨_, rfl⟩
      rw [← hC] at ho htk hal
      clear hC hown
      obtain ⟨q, hq⟩ : ∃ q, q = x.toNat / 16 := ⟨_, rfl⟩
      obtain ⟨r, hr⟩ : ∃ r, r = x.toNat % 16 := ⟨_, rfl⟩
      have hq16 : q < 16 := by have := x.toNat_lt; omega
      have hr16 : r < 16 := by omega
      rw [← hq, ← hr] at htk
      obtain ⟨F, hF⟩ : ∃ F, F = inF set (b2 x) := ⟨_, rfl⟩
      rw [← hF] at htk hin
      clear hF
      obtain ⟨X, hX⟩ : ∃ X : Int, X = b2 x := ⟨_, rfl⟩
      rw [← hX] at hx hin hxr
      have hXn : X = (x.toNat : Int) := hX
      have ht : Int.tdiv X 16 = (q : Int) := by rw [hXn, hq]; exact (Int.ofNat_tdiv x.toNat 16).symm
      have hm : Int.tmod X 16 = (r : Int) := by rw [hXn, hr]; exact (Int.ofNat_tmod x.toNat 16).symm
      have HX := Lib.hid hX; clear hX hXn hq hr
      have HIN := Lib.hid hin; clear hin
      cases F
      · rw [if_neg (by simp)] at htk
        have hsn : Lib.byteCells (C ++ [x]) = Lib.byteCells C ++ [.int .u8 X] := by rw [HX.out]; exact bytes_snoc C x
        have HSN := Lib.hid hsn; clear hsn
        have HTK := Lib.hid htk; clear htk ht hm
        have HO := Lib.hid ho; clear ho
        have HAL := Lib.hid hal; clear hal
        go_wp2_with (first
          | (go_at_call 46; refine (HIN.out _).mono ?_; rintro e w2 ⟨rfl, hw2⟩; subst w2)
          | (at_builtin; (refine push1 rfl (.tmp 34) (.tmp 38) _ rfl w.heap.size 5 i8 (.int .u8 0) 1 Tryz.underlying37 hi8 hz8 hz81 hz82 (by decide) _ _ _ (Lib.byteCells C) rfl HO.out (.int .u8 X) rfl rfl (by omega) (by decide) (by omega) ?_); intro v2 w2 hown2 hw2 hb2; have HO2 := Lib.hid hown2; clear hown2; have HB2 := Lib.hid hb2; clear hb2)
          | fail)
        go_roundw
        case rel =>
          refine ⟨k + 1, by omega, by simp, ?_, by omega, HB.out.trans HB2.out⟩
          show World.ownsRow _ _ _ _ _ _ _
          rw [HTK.out, HSN.out, List.length_append, ← HAL.out]
          exact HO2.out
        case measure => simp [intOf]; omega
      · rw [if_pos rfl] at htk
        have hwq : IntKind.u8.wrap (q : Int) = (q : Int) := by rw [IntKind.wrap_u8]; omega
        have hwr : IntKind.u8.wrap (r : Int) = (r : Int) := by rw [IntKind.wrap_u8]; omega
        have hqi : (q : Int) < 16 := by omega
        have hri : (r : Int) < 16 := by omega
        have d1 := digitU ⟨q, hq16⟩
        have d2 := digitU ⟨r, hr16⟩
        simp only at d1 d2
        have hqs : q < (⟨#[48, 49, 50, 51, 52, 53, 54, 55, 56, 57, 65, 66, 67, 68, 69, 70]⟩ : ByteArray).size := hq16
        have hrs : r < (⟨#[48, 49, 50, 51, 52, 53, 54, 55, 56, 57, 65, 66, 67, 68, 69, 70]⟩ : ByteArray).size := hr16
        obtain ⟨D, hD⟩ : ∃ D : ByteArray, D = ⟨#[48, 49, 50, 51, 52, 53, 54, 55, 56, 57, 65, 66, 67, 68, 69, 70]⟩ := ⟨_, rfl⟩
        have f1 : ((((⟨#[48, 49, 50, 51, 52, 53, 54, 55, 56, 57, 65, 66, 67, 68, 69, 70]⟩ : ByteArray)[q]'hqs).toNat : Int)) = b2 (hexU q) := by rw [d1]; rfl
        have f2 : ((((⟨#[48, 49, 50, 51, 52, 53, 54, 55, 56, 57, 65, 66, 67, 68, 69, 70]⟩ : ByteArray)[r]'hrs).toNat : Int)) = b2 (hexU r) := by rw [d2]; rfl
        have hsn : Lib.byteCells (C ++ [37, hexU q, hexU r]) = Lib.byteCells C ++ [.int .u8 37, .int .u8 (b2 (hexU q)), .int .u8 (b2 (hexU r))] := by simp [Lib.byteCells, b2]
        obtain ⟨P1, hP1⟩ : ∃ P1, P1 = b2 (hexU q) := ⟨_, rfl⟩
        obtain ⟨P2, hP2⟩ : ∃ P2, P2 = b2 (hexU r) := ⟨_, rfl⟩
        rw [← hP1] at f1 hsn
        rw [← hP2] at f2 hsn
        have HSN := Lib.hid hsn; clear hsn d1 d2 hD hP1 hP2
        have HTK := Lib.hid htk; clear htk
        have HO := Lib.hid ho; clear ho
        have HAL := Lib.hid hal; clear hal
        obtain ⟨v2, w2, hrn, hown2, hb2⟩ := app3 (wr := wr) (B := w.heap.size) 37 P1 P2 HO.out hl1 hwz
        have HO2 := Lib.hid hown2; clear hown2
        have HB2 := Lib.hid hb2; clear hb2
        clear HO
        go_wp2_with (first
          | (go_at_call 46; refine (HIN.out _).mono ?_; rintro e w2 ⟨rfl, hw2⟩; subst hw2)
          | fail)
        refine wp_region_held_drew (S := fun _ => True) (by kernel_rfl) (by exact trivial) (fun hHeld => ?_)
        refine tk 0 (v := ?_) rfl (by kernel_rfl) (by kernel_rfl) (by kernel_rfl) (fun _ _ _ h => h) (by rfl) (by assumption) (fun wS hSw => ?_) ?_
        rotate_left
        · (try dsimp only at hSw); go_simp; first | done | with_reducible rfl   -- move
        try simp only [Act.put, List.setIfInBounds_toArray, List.set_cons_zero, List.set_cons_succ]
        refine tk 1 (v := ?_) rfl (by kernel_rfl) (by kernel_rfl) (by kernel_rfl) (fun _ _ _ h => h) (by rfl) (by assumption) (fun wS hSw => ?_) ?_
        rotate_left
        · (try dsimp only at hSw); go_simp; first | done | with_reducible rfl   -- move
        try simp only [Act.put, List.setIfInBounds_toArray, List.set_cons_zero, List.set_cons_succ]
        refine tk 2 (v := ?_) rfl (by kernel_rfl) (by kernel_rfl) (by kernel_rfl) (fun _ _ _ h => h) (by rfl) (by assumption) (fun wS hSw => ?_) ?_
        rotate_left
        · (try dsimp only at hSw); go_simp; first | done | with_reducible rfl   -- move
        try simp only [Act.put, List.setIfInBounds_toArray, List.set_cons_zero, List.set_cons_succ]
        refine tk 3 (v := ?_) rfl (by kernel_rfl) (by kernel_rfl) (by kernel_rfl) (fun _ _ _ h => h) (by rfl) (by assumption) (fun wS hSw => ?_) ?_
        rotate_left
        · (try dsimp only at hSw); go_simp; first | done | with_reducible rfl   -- move
        try simp only [Act.put, List.setIfInBounds_toArray, List.set_cons_zero, List.set_cons_succ]
        refine tk 4 (v := ?_) rfl (by kernel_rfl) (by kernel_rfl) (by kernel_rfl) (fun _ _ _ h => h) (by rfl) (by assumption) (fun wS hSw => ?_) ?_
        rotate_left
        · (try dsimp only at hSw); go_simp; first | done | with_reducible rfl   -- index
        try simp only [Act.put, List.setIfInBounds_toArray, List.set_cons_zero, List.set_cons_succ]
        refine tk 5 (v := ?_) rfl (by kernel_rfl) (by kernel_rfl) (by kernel_rfl) (fun _ _ _ h => h) (by rfl) (by assumption) (fun wS hSw => ?_) ?_
        rotate_left
        · (try dsimp only at hSw); go_simp; first | done | with_reducible rfl   -- binOp
        try simp only [Act.put, List.setIfInBounds_toArray, List.set_cons_zero, List.set_cons_succ]
        refine tk 6 (v := ?_) rfl (by kernel_rfl) (by kernel_rfl) (by kernel_rfl) (fun _ _ _ h => h) (by rfl) (by assumption) (fun wS hSw => ?_) ?_
        rotate_left
        · (try dsimp only at hSw); go_simp; first | done | with_reducible rfl   -- index
        try simp only [Act.put, List.setIfInBounds_toArray, List.set_cons_zero, List.set_cons_succ]
        refine tk 7 (v := ?_) rfl (by kernel_rfl) (by kernel_rfl) (by kernel_rfl) (fun _ _ _ h => h) (by rfl) (by assumption) (fun wS hSw => ?_) ?_
        rotate_left
        · (try dsimp only at hSw); go_simp; first | done | with_reducible rfl   -- move
        try simp only [Act.put, List.setIfInBounds_toArray, List.set_cons_zero, List.set_cons_succ]
        refine tk 8 (v := ?_) rfl (by kernel_rfl) (by kernel_rfl) (by kernel_rfl) (fun _ _ _ h => h) (by rfl) (by assumption) (fun wS hSw => ?_) ?_
        rotate_left
        · (try dsimp only at hSw); go_simp; first | done | with_reducible rfl   -- move
        try simp only [Act.put, List.setIfInBounds_toArray, List.set_cons_zero, List.set_cons_succ]
        refine tk 9 (v := ?_) rfl (by kernel_rfl) (by kernel_rfl) (by kernel_rfl) (fun _ _ _ h => h) (by rfl) (by assumption) (fun wS hSw => ?_) ?_
        rotate_left
        · (try dsimp only at hSw); go_simp; first | done | with_reducible rfl   -- move
        try simp only [Act.put, List.setIfInBounds_toArray, List.set_cons_zero, List.set_cons_succ]
        refine tk 10 (v := ?_) rfl (by kernel_rfl) (by kernel_rfl) (by kernel_rfl) (fun _ _ _ h => h) (by rfl) (by assumption) (fun wS hSw => ?_) ?_
        rotate_left
        · (try dsimp only at hSw); go_simp; first | done | with_reducible rfl   -- index
        try simp only [Act.put, List.setIfInBounds_toArray, List.set_cons_zero, List.set_cons_succ]
        refine tk 11 (v := ?_) rfl (by kernel_rfl) (by kernel_rfl) (by kernel_rfl) (fun _ _ _ h => h) (by rfl) (by assumption) (fun wS hSw => ?_) ?_
        rotate_left
        · (try dsimp only at hSw); go_simp; first | done | with_reducible rfl   -- binOp
        try simp only [Act.put, List.setIfInBounds_toArray, List.set_cons_zero, List.set_cons_succ]
        refine tk 12 (v := ?_) rfl (by kernel_rfl) (by kernel_rfl) (by kernel_rfl) (fun _ _ _ h => h) (by rfl) (by assumption) (fun wS hSw => ?_) ?_
        rotate_left
        · (try dsimp only at hSw); go_simp; first | done | with_reducible rfl   -- index
        try simp only [Act.put, List.setIfInBounds_toArray, List.set_cons_zero, List.set_cons_succ]
        refine rn 13 (by kernel_rfl) rfl (by rfl) (fun K hK => ?_)
        go_simp   -- 13: buildSlice
        refine hK.out _ _ ?_ (fun hHeld => ?_)
        · exact trivial
        clear hK K
        try simp only [Act.put, List.setIfInBounds_toArray, List.set_cons_zero, List.set_cons_succ]
        refine rn 14 (by kernel_rfl) rfl (by rfl) (fun K hK => ?_)
        refine append_wp (.tmp 19) (.tmp 32) _ _ rfl _ _ _ _ rfl rfl hrn ?_
        refine hK.out _ _ ?_ (fun hHeld => ?_)
        · exact trivial
        clear hK K
        try simp only [Act.put, List.setIfInBounds_toArray, List.set_cons_zero, List.set_cons_succ]
        refine tk 15 (v := ?_) rfl (by kernel_rfl) (by kernel_rfl) (by kernel_rfl) (fun _ _ _ h => h) (by rfl) (by assumption) (fun wS hSw => ?_) ?_
        rotate_left
        · (try dsimp only at hSw); go_simp; first | done | with_reducible rfl   -- assign
        try simp only [Act.put, List.setIfInBounds_toArray, List.set_cons_zero, List.set_cons_succ]
        refine wpAnyH_done (by kernel_rfl) ?_ _
        go_wp2_with fail
        go_roundw
        case rel =>
          refine ⟨k + 1, by omega, by simp, ?_, by have := HB2.out.size; omega, HB.out.trans HB2.out⟩
          show World.ownsRow _ _ _ _ _ _ _
          rw [HTK.out, HSN.out, List.length_append, ← HAL.out]
          exact HO2.out
        case measure => simp [intOf]; omega
    · obtain rfl : k = N := by omega
      have ho := hown.out
      rw [List.take_of_length_le (by have := HSZ.out; omega)] at ho
      have HO := Lib.hid ho; clear ho hown
      have hcv := conv_own (P := Tryz.prog) (src := 37) (dst := 9) Tryz.underlying37 Tryz.underlying5 Tryz.underlying9 HO.out
      have HCV := Lib.hid hcv
      go_wp2_with fail
      go_ret
      exact ⟨rfl, HB.out⟩
end Go.Proofs.YtgfklkfbccknoaaGreatDoor

/- The reference's Decode of layer 3. -/
namespace Go.Proofs.YtgfklkfbccknoaaGreatDoor
open Go.RowKit
set_option maxRecDepth 10000

theorem at1 (w : World) (a : Value) (e : TypeId) : At (w.alloc (.cells #[a] e)) w.heap.size 0 [a] := by
  intro j hj
  rw [Nat.zero_add, World.cell?_alloc_mark]
  match j, hj with
  | 0, _ => rfl
theorem app1 {wr : World} {B n : Nat} {v : Value} {xs : List Value} (a : Int) (h : wr.ownsRow B 5 1 v n xs) (hn : n ≤ 3000000) (hB : B ≤ wr.heap.size) :
    ∃ v2 w2, (Builtin.append_ #[37, 37] 37 #[v, .slice (some ⟨wr.heap.size, 0, none⟩) 1 1]).run Tryz.prog (wr.drew.alloc (.cells #[.int .u8 a] 5)) = .ok v2 w2 ∧
      w2.ownsRow B 5 1 v2 (n + 1) (xs ++ [.int .u8 a]) ∧ Below B wr w2 := by
  obtain ⟨i8, hi8, hz8, hz81, hz82⟩ := info_parts u8_info
  have hown : (wr.drew.alloc (.cells #[.int .u8 a] 5)).ownsRow B 5 1 v n xs := (own_below h (Below.refl wr.heap.size wr).drew).alloc _
  obtain ⟨v2, w2, h1, h2, h3, _⟩ := append_v (P := Tryz.prog) (wr.drew.alloc (.cells #[.int .u8 a] 5)) B 37 37 5 i8 (.int .u8 0) 1 Tryz.underlying37 hi8 hz8 hz81 hz82 (by decide) v n xs
    [.int .u8 a] hown (by intro u hu; simp at hu; subst hu; rfl) (by simp; unfold maxLen; omega) (by simp; omega) (by simp; omega) (wr.heap.size + 1) (.slice (some ⟨wr.heap.size, 0, none⟩) 1 1)
    ⟨1, by simp, by unfold maxLen; omega, .inr ⟨wr.heap.size, 0, by omega, rfl, at1 wr.drew _ _⟩⟩
  exact ⟨v2, w2, h1, h2, (((Below.refl B wr).drew).alloc hB _).grown h3 (by simp; omega) (fun k hk => (hown.lt k hk).1)⟩
set_option maxHeartbeats 4000000 in
theorem rdecode3_any (l : Bytes) (w : World) (hl : l.length ≤ 1000000) : Calls Tryz.prog 28 #[.string (bs l)] w (RetRow w 5 (Lib.byteCells (pdF l))) := by
  obtain ⟨i8, hi8, hz8, hz81, hz82⟩ := info_parts u8_info
  obtain ⟨s, hs⟩ : ∃ s, s = bs l := ⟨_, rfl⟩
  have hsz : s.size = l.length := by rw [hs, bs_size]
  have hby : ∀ k (hk : k < s.size) (hk2 : k < l.length), ((s[k]'hk).toNat : Int) = b2 l[k] := fun k hk hk2 => str_at hs hk hk2
  rw [← hs]
  clear hs
  obtain ⟨N, hN⟩ : ∃ N, N = s.size := ⟨_, rfl⟩
  have hsN : s.size = N := hN.symm
  have hNm : N ≤ 1000000 := by omega
  have HBY := Lib.hid hby; clear hby
  have HSZ := Lib.hid hsz; clear hsz hl hN
  go_enter Tryz.func28, Tryz.ntmps28
  go_wp2_with fail
  obtain ⟨T, hT⟩ : ∃ T, T = pdF l := ⟨_, rfl⟩
  rw [← hT]
  have HT := Lib.hid hT; clear hT
  go_loopw [3, 4] (fun ov iv wr => ∃ (k : Nat) (o : Bytes), k ≤ N ∧ iv = .int .i64 k ∧ wr.ownsRow w.heap.size 5 1 ov o.length (Lib.byteCells o) ∧ o ++ pdF (l.drop k) = T ∧ o.length ≤ k ∧ w.heap.size ≤ wr.heap.size ∧ Below w.heap.size w wr) (fun _ i _ => N - (intOf i).toNat)
  case atStart => exact ⟨0, [], by omega, by simp, ⟨rfl, .inl ⟨rfl, rfl⟩⟩, by rw [HT.out]; rfl, by simp, Nat.le_refl _, Below.refl _ _⟩
  case round =>
    obtain ⟨k, o, hk, rfl, hown, ho, hol, hwz, hbel⟩ := hrel
    have HO := Lib.hid hown; clear hown
    have HB := Lib.hid hbel; clear hbel
    have HC := Lib.hid ho; clear ho
    by_cases hlt : k < N
    · have hku : k < s.size := by omega
      have hkl : k < l.length := by have := HSZ.out; omega
      have hx := HBY.out k hku hkl
      obtain ⟨al, hal'⟩ : ∃ al, al = o.length := ⟨_, rfl⟩
      have ho := HO.out
      rw [← hal'] at hol ho
      have HO1 := Lib.hid ho; clear ho HO
      have HAL := Lib.hid hal'; clear hal'
      have hmiss := pd_miss (l := l) (k := k) hkl
      have hhit := pd_hit (l := l) (k := k)
      obtain ⟨X, hX⟩ : ∃ X : Int, X = b2 l[k] := ⟨_, rfl⟩
      rw [← hX] at hx
      have hmisse : ¬ (b2 l[k] = 37 ∧ ∃ h2 : k + 2 < l.length, 0 ≤ dgt (b2 l[k + 1]) 16 ∧ 0 ≤ dgt (b2 l[k + 2]) 16) → ∀ (v2 : Value) (w2 : World), w2.ownsRow w.heap.size 5 1 v2 (al + 1) (Lib.byteCells o ++ [.int .u8 X]) → ∃ o', w2.ownsRow w.heap.size 5 1 v2 o'.length (Lib.byteCells o') ∧ o' ++ pdF (l.drop (k + 1)) = T ∧ o'.length = al + 1 := fun hm v2 w2 h2 => by
        refine ⟨o ++ [l[k]], ?_, ?_, ?_⟩
        · rw [List.length_append, ← HAL.out, bytes_snoc, ← hX]
          exact h2
        · rw [← HC.out, hmiss hm]; simp
        · rw [List.length_append, ← HAL.out]; rfl
      clear hmiss
      have hw2 : IntKind.i64.wrap ((k : Int) + 2) = (k : Int) + 2 := IntWalk.i64_in _ (by omega)
      have hw1 : IntKind.i64.wrap ((k : Int) + 1) = (k : Int) + 1 := IntWalk.i64_in _ (by omega)
      by_cases h37 : X = 37
      · by_cases hin : k + 2 < N
        · have hk1 : k + 1 < s.size := by omega
          have hk2 : k + 2 < s.size := by omega
          have hk1l : k + 1 < l.length := by have := HSZ.out; omega
          have hk2l : k + 2 < l.length := by have := HSZ.out; omega
          have hx1 := HBY.out (k + 1) hk1 hk1l
          have hx2 := HBY.out (k + 2) hk2 hk2l
          have r1 := b2_lt l[k + 1]
          have r2 := b2_lt l[k + 2]
          have hd1 : ∀ W, Calls Tryz.prog 50 #[.int .u8 (b2 l[k + 1]), .int .i64 16] W fun e w' => e = .returned (.int .i64 (dgt (b2 l[k + 1]) 16)) ∧ w' = W := fun W => (digitR_any (b2 l[k + 1]) 16 W r1 (by omega)).mono (fun _ _ h => ⟨h.1, h.2.symm⟩)
          have hd2 : ∀ W, Calls Tryz.prog 50 #[.int .u8 (b2 l[k + 2]), .int .i64 16] W fun e w' => e = .returned (.int .i64 (dgt (b2 l[k + 2]) 16)) ∧ w' = W := fun W => (digitR_any (b2 l[k + 2]) 16 W r2 (by omega)).mono (fun _ _ h => ⟨h.1, h.2.symm⟩)
          have g1 := dgt_lt (b2 l[k + 1])
          have g2 := dgt_lt (b2 l[k + 2])
          have f1 := dgt_ge (b2 l[k + 1])
          have f2 := dgt_ge (b2 l[k + 2])
          obtain ⟨D, hD⟩ : ∃ D, D = dgt (b2 l[k + 1]) 16 := ⟨_, rfl⟩
          obtain ⟨E, hE⟩ : ∃ E, E = dgt (b2 l[k + 2]) 16 := ⟨_, rfl⟩
          rw [← hD] at hd1 g1 f1
          rw [← hE] at hd2 g2 f2
          have HD := Lib.hid hD; clear hD
          have HE := Lib.hid hE; clear hE
          by_cases hdg : 0 ≤ D ∧ 0 ≤ E
          · obtain ⟨d0, e0⟩ := hdg
            have hv : pdV l[k + 1] l[k + 2] = 16 * D + E := by unfold pdV; rw [← HD.out, ← HE.out]; omega
            have hh := hhit hk2l (by rw [← hX]; exact h37) (by rw [← HD.out]; exact d0) (by rw [← HE.out]; exact e0)
            rw [hv] at hh
            have hm1 : IntKind.i64.wrap (16 * D) = 16 * D := IntWalk.i64_in _ (by omega)
            have hm2 : IntKind.i64.wrap (16 * D + E) = 16 * D + E := IntWalk.i64_in _ (by omega)
            have hm3 : IntKind.u8.wrap (16 * D + E) = 16 * D + E := by rw [IntKind.wrap_u8]; omega
            have hge : ∀ (v2 : Value) (w2 : World), w2.ownsRow w.heap.size 5 1 v2 (al + 1) (Lib.byteCells o ++ [.int .u8 (16 * D + E)]) → ∃ o', w2.ownsRow w.heap.size 5 1 v2 o'.length (Lib.byteCells o') ∧ o' ++ pdF (l.drop (k + 3)) = T ∧ o'.length = al + 1 := fun v2 w2 h2 => by
              refine ⟨o ++ [UInt8.ofNat (16 * D + E).toNat], ?_, ?_, ?_⟩
              · rw [List.length_append, ← HAL.out, bytes_snoc, b2_of (by omega)]
                exact h2
              · rw [← HC.out, hh]; simp
              · rw [List.length_append, ← HAL.out]; rfl
            have HM := Lib.hid hge; clear hge hmisse hhit hh hv
            clear hX f1 f2
            subst h37
            have HD1 := Lib.hid hd1; clear hd1
            have HD2 := Lib.hid hd2; clear hd2
            obtain ⟨x1, hx1'⟩ : ∃ x, x = b2 l[k + 1] := ⟨_, rfl⟩
            obtain ⟨x2, hx2'⟩ : ∃ x, x = b2 l[k + 2] := ⟨_, rfl⟩
            rw [← hx1'] at hx1 HD1 r1
            rw [← hx2'] at hx2 HD2 r2
            clear hx1' hx2' HD HE
            obtain ⟨K1, hK1⟩ : ∃ K1, K1 = k + 1 := ⟨_, rfl⟩
            obtain ⟨K2, hK2⟩ : ∃ K2, K2 = k + 2 := ⟨_, rfl⟩
            have hx1k : ∀ h : K1 < s.size, ((s[K1]'h).toNat : Int) = x1 := fun h => by subst hK1; exact hx1
            have hx2k : ∀ h : K2 < s.size, ((s[K2]'h).toNat : Int) = x2 := fun h => by subst hK2; exact hx2
            have hk1' : K1 < s.size := by omega
            have hk2' : K2 < s.size := by omega
            have hk3' : K2 < N := by omega
            have hk4' : K1 < N := by omega
            have hx1e := hx1k hk1'
            have hx2e := hx2k hk2'
            have hw1' : IntKind.i64.wrap ((k : Int) + 1) = (K1 : Int) := by rw [hw1]; omega
            have hw2' : IntKind.i64.wrap ((k : Int) + 2) = (K2 : Int) := by rw [hw2]; omega
            have HK2 := Lib.hid hK2
            have HK1 := Lib.hid hK1
            clear hx1 hx2 hx1k hx2k hk1 hk2 hw1 hw2 hin hK1 hK2 hk1l hk2l
            obtain ⟨V, hV⟩ : ∃ V, V = 16 * D + E := ⟨_, rfl⟩
            have hm2v : IntKind.i64.wrap (16 * D + E) = V := by rw [hV]; exact hm2
            rw [← hV] at HM hm3
            clear hm2
            obtain ⟨v2, w2, hrn, hown2, hb2⟩ := app1 (wr := wr) (B := w.heap.size) V HO1.out (show al ≤ 3000000 by omega) hwz
            have HO2 := Lib.hid hown2; clear hown2
            have HB2 := Lib.hid hb2; clear hb2
            have HV := Lib.hid hV; clear hV
            clear HO1
            go_wp2_with (first
                  | (go_at_call 50; (with_reducible first | refine (HD1.out _).mono ?_ | refine (HD2.out _).mono ?_); rintro e w5 ⟨rfl, hw5⟩; subst hw5)
                  | fail)
            refine wp_region_held_drew (S := fun _ => True) (by kernel_rfl) (by exact trivial) (fun hHeld => ?_)
            refine tk 0 (v := ?_) rfl (by kernel_rfl) (by kernel_rfl) (by kernel_rfl) (fun _ _ _ h => h) (by rfl) (by assumption) (fun wS hSw => ?_) ?_
            rotate_left
            · (try dsimp only at hSw); go_simp; first | done | with_reducible rfl   -- move
            try simp only [Act.put, List.setIfInBounds_toArray, List.set_cons_zero, List.set_cons_succ]
            refine tk 1 (v := ?_) rfl (by kernel_rfl) (by kernel_rfl) (by kernel_rfl) (fun _ _ _ h => h) (by rfl) (by assumption) (fun wS hSw => ?_) ?_
            rotate_left
            · (try dsimp only at hSw); go_simp; first | done | with_reducible rfl   -- move
            try simp only [Act.put, List.setIfInBounds_toArray, List.set_cons_zero, List.set_cons_succ]
            refine tk 2 (v := ?_) rfl (by kernel_rfl) (by kernel_rfl) (by kernel_rfl) (fun _ _ _ h => h) (by rfl) (by assumption) (fun wS hSw => ?_) ?_
            rotate_left
            · (try dsimp only at hSw); go_simp; first | done | with_reducible rfl   -- move
            try simp only [Act.put, List.setIfInBounds_toArray, List.set_cons_zero, List.set_cons_succ]
            refine tk 3 (v := ?_) rfl (by kernel_rfl) (by kernel_rfl) (by kernel_rfl) (fun _ _ _ h => h) (by rfl) (by assumption) (fun wS hSw => ?_) ?_
            rotate_left
            · (try dsimp only at hSw); go_simp; first | done | with_reducible rfl   -- binOp
            try simp only [Act.put, List.setIfInBounds_toArray, List.set_cons_zero, List.set_cons_succ]
            refine tk 4 (v := ?_) rfl (by kernel_rfl) (by kernel_rfl) (by kernel_rfl) (fun _ _ _ h => h) (by rfl) (by assumption) (fun wS hSw => ?_) ?_
            rotate_left
            · (try dsimp only at hSw); go_simp; first | done | with_reducible rfl   -- index
            try simp only [Act.put, List.setIfInBounds_toArray, List.set_cons_zero, List.set_cons_succ]
            refine tk 7 (v := ?_) rfl (by kernel_rfl) (by kernel_rfl) (by kernel_rfl) (fun _ _ _ h => h) (by rfl) (by assumption) (fun wS hSw => ?_) ?_
            rotate_left
            · (try dsimp only at hSw); go_simp; first | done | with_reducible rfl   -- move
            try simp only [Act.put, List.setIfInBounds_toArray, List.set_cons_zero, List.set_cons_succ]
            refine tk 8 (v := ?_) rfl (by kernel_rfl) (by kernel_rfl) (by kernel_rfl) (fun _ _ _ h => h) (by rfl) (by assumption) (fun wS hSw => ?_) ?_
            rotate_left
            · (try dsimp only at hSw); go_simp; first | done | with_reducible rfl   -- move
            try simp only [Act.put, List.setIfInBounds_toArray, List.set_cons_zero, List.set_cons_succ]
            refine tk 9 (v := ?_) rfl (by kernel_rfl) (by kernel_rfl) (by kernel_rfl) (fun _ _ _ h => h) (by rfl) (by assumption) (fun wS hSw => ?_) ?_
            rotate_left
            · (try dsimp only at hSw); go_simp; first | done | with_reducible rfl   -- binOp
            try simp only [Act.put, List.setIfInBounds_toArray, List.set_cons_zero, List.set_cons_succ]
            refine tk 10 (v := ?_) rfl (by kernel_rfl) (by kernel_rfl) (by kernel_rfl) (fun _ _ _ h => h) (by rfl) (by assumption) (fun wS hSw => ?_) ?_
            rotate_left
            · (try dsimp only at hSw); go_simp; first | done | with_reducible rfl   -- index
            try simp only [Act.put, List.setIfInBounds_toArray, List.set_cons_zero, List.set_cons_succ]
            refine rn 5 (by kernel_rfl) rfl (by rfl) (fun K hK => ?_)
            go_simp   -- 5: call of tamis/tamisref01.Digit
            refine (HD1.out _).mono ?_
            rintro e w5 ⟨rfl, hw5⟩
            subst hw5
            refine hK.out _ _ ?_ (fun hHeld => ?_)
            · exact trivial
            clear hK K
            try simp only [Act.put, List.setIfInBounds_toArray, List.set_cons_zero, List.set_cons_succ]
            refine tk 6 (v := ?_) rfl (by kernel_rfl) (by kernel_rfl) (by kernel_rfl) (fun _ _ _ h => h) (by rfl) (by assumption) (fun wS hSw => ?_) ?_
            rotate_left
            · (try dsimp only at hSw); go_simp; first | done | with_reducible rfl   -- binOp
            try simp only [Act.put, List.setIfInBounds_toArray, List.set_cons_zero, List.set_cons_succ]
            refine rn 11 (by kernel_rfl) rfl (by rfl) (fun K hK => ?_)
            go_simp   -- 11: call of tamis/tamisref01.Digit
            refine (HD2.out _).mono ?_
            rintro e w5 ⟨rfl, hw5⟩
            subst hw5
            refine hK.out _ _ ?_ (fun hHeld => ?_)
            · exact trivial
            clear hK K
            try simp only [Act.put, List.setIfInBounds_toArray, List.set_cons_zero, List.set_cons_succ]
            refine tk 12 (v := ?_) rfl (by kernel_rfl) (by kernel_rfl) (by kernel_rfl) (fun _ _ _ h => h) (by rfl) (by assumption) (fun wS hSw => ?_) ?_
            rotate_left
            · (try dsimp only at hSw); go_simp; first | done | with_reducible rfl   -- binOp
            try simp only [Act.put, List.setIfInBounds_toArray, List.set_cons_zero, List.set_cons_succ]
            refine tk 13 (v := ?_) rfl (by kernel_rfl) (by kernel_rfl) (by kernel_rfl) (fun _ _ _ h => h) (by rfl) (by assumption) (fun wS hSw => ?_) ?_
            rotate_left
            · (try dsimp only at hSw); go_simp; first | done | with_reducible rfl   -- convert
            try simp only [Act.put, List.setIfInBounds_toArray, List.set_cons_zero, List.set_cons_succ]
            refine rn 14 (by kernel_rfl) rfl (by rfl) (fun K hK => ?_)
            go_simp   -- 14: buildSlice
            refine hK.out _ _ ?_ (fun hHeld => ?_)
            · exact trivial
            clear hK K
            try simp only [Act.put, List.setIfInBounds_toArray, List.set_cons_zero, List.set_cons_succ]
            refine rn 15 (by kernel_rfl) rfl (by rfl) (fun K hK => ?_)
            refine append_wp (.tmp 38) (.tmp 52) _ _ rfl _ _ _ _ rfl rfl hrn ?_
            refine hK.out _ _ ?_ (fun hHeld => ?_)
            · exact trivial
            clear hK K
            try simp only [Act.put, List.setIfInBounds_toArray, List.set_cons_zero, List.set_cons_succ]
            refine tk 16 (v := ?_) rfl (by kernel_rfl) (by kernel_rfl) (by kernel_rfl) (fun _ _ _ h => h) (by rfl) (by assumption) (fun wS hSw => ?_) ?_
            rotate_left
            · (try dsimp only at hSw); go_simp; first | done | with_reducible rfl   -- assign
            try simp only [Act.put, List.setIfInBounds_toArray, List.set_cons_zero, List.set_cons_succ]
            refine wpAnyH_done (by kernel_rfl) ?_ _
            go_wp2_with fail
            go_roundw
            case rel =>
              obtain ⟨o', a1, a2, a3⟩ := HM.out _ _ HO2.out
              have hk2e := HK2.out
              subst hk2e
              exact ⟨k + 3, o', by omega, by first | rfl | (simp; done) | (simp; omega), a1, a2, by omega, by have := HB2.out.size; omega, HB.out.trans HB2.out⟩
            case measure => have := HK2.out; simp [intOf]; omega
          · have HM := Lib.hid (hmisse (fun a => hdg ⟨by rw [HD.out]; exact a.2.2.1, by rw [HE.out]; exact a.2.2.2⟩)); clear hmisse hhit
            clear hX
            subst h37
            have HD1 := Lib.hid hd1; clear hd1
            have HD2 := Lib.hid hd2; clear hd2
            obtain ⟨x1, hx1'⟩ : ∃ x, x = b2 l[k + 1] := ⟨_, rfl⟩
            obtain ⟨x2, hx2'⟩ : ∃ x, x = b2 l[k + 2] := ⟨_, rfl⟩
            rw [← hx1'] at hx1 HD1 r1
            rw [← hx2'] at hx2 HD2 r2
            clear hx1' hx2' HD HE
            obtain ⟨K1, hK1⟩ : ∃ K1, K1 = k + 1 := ⟨_, rfl⟩
            obtain ⟨K2, hK2⟩ : ∃ K2, K2 = k + 2 := ⟨_, rfl⟩
            have hx1k : ∀ h : K1 < s.size, ((s[K1]'h).toNat : Int) = x1 := fun h => by subst hK1; exact hx1
            have hx2k : ∀ h : K2 < s.size, ((s[K2]'h).toNat : Int) = x2 := fun h => by subst hK2; exact hx2
            have hk1' : K1 < s.size := by omega
            have hk2' : K2 < s.size := by omega
            have hk3' : K2 < N := by omega
            have hk4' : K1 < N := by omega
            have hx1e := hx1k hk1'
            have hx2e := hx2k hk2'
            have hw1' : IntKind.i64.wrap ((k : Int) + 1) = (K1 : Int) := by rw [hw1]; omega
            have hw2' : IntKind.i64.wrap ((k : Int) + 2) = (K2 : Int) := by rw [hw2]; omega
            have HK2 := Lib.hid hK2
            have HK1 := Lib.hid hK1
            clear hx1 hx2 hx1k hx2k hk1 hk2 hw1 hw2 hin hK1 hK2 hk1l hk2l
            have hDE : D < 0 ∨ (0 ≤ D ∧ E < 0) := by omega
            clear hdg
            rcases hDE with hDE | ⟨hDE, hDE2⟩
            · go_wp2_with (first
                | (go_at_call 50; (with_reducible first | refine (HD1.out _).mono ?_ | refine (HD2.out _).mono ?_); rintro e w5 ⟨rfl, hw5⟩; subst hw5)
                | (at_builtin; (refine push1 rfl (.tmp 56) (.tmp 60) _ rfl w.heap.size 5 i8 (.int .u8 0) 1 Tryz.underlying37 hi8 hz8 hz81 hz82 (by decide) _ _ _ (Lib.byteCells o) rfl HO1.out (.int .u8 37) rfl rfl (by omega) (by decide) (by omega) ?_); intro v2 w2 hown2 hw2 hb2; have HO2 := Lib.hid hown2; clear hown2; have HB2 := Lib.hid hb2; clear hb2)
                | fail)
              go_roundw
              case rel =>
                obtain ⟨o', a1, a2, a3⟩ := HM.out _ _ HO2.out
                have hk1e := HK1.out
                subst hk1e
                exact ⟨k + 1, o', by omega, by first | rfl | (simp; done) | (simp; omega), a1, a2, by omega, by omega, HB.out.trans HB2.out⟩
              case measure => have := HK1.out; simp [intOf]; omega
            · go_wp2_with (first
                | (go_at_call 50; (with_reducible first | refine (HD1.out _).mono ?_ | refine (HD2.out _).mono ?_); rintro e w5 ⟨rfl, hw5⟩; subst hw5)
                | (at_builtin; (refine push1 rfl (.tmp 56) (.tmp 60) _ rfl w.heap.size 5 i8 (.int .u8 0) 1 Tryz.underlying37 hi8 hz8 hz81 hz82 (by decide) _ _ _ (Lib.byteCells o) rfl HO1.out (.int .u8 37) rfl rfl (by omega) (by decide) (by omega) ?_); intro v2 w2 hown2 hw2 hb2; have HO2 := Lib.hid hown2; clear hown2; have HB2 := Lib.hid hb2; clear hb2)
                | fail)
              go_roundw
              case rel =>
                obtain ⟨o', a1, a2, a3⟩ := HM.out _ _ HO2.out
                have hk1e := HK1.out
                subst hk1e
                exact ⟨k + 1, o', by omega, by first | rfl | (simp; done) | (simp; omega), a1, a2, by omega, by omega, HB.out.trans HB2.out⟩
              case measure => have := HK1.out; simp [intOf]; omega
        · have HM := Lib.hid (hmisse (fun a => hin (by have := a.2.1; have := HSZ.out; omega))); clear hmisse hhit
          subst h37
          have HX := Lib.hid hX; clear hX
          go_wp2_with (at_builtin; (refine push1 rfl (.tmp 56) (.tmp 60) _ rfl w.heap.size 5 i8 (.int .u8 0) 1 Tryz.underlying37 hi8 hz8 hz81 hz82 (by decide) _ _ _ (Lib.byteCells o) rfl HO1.out (.int .u8 37) rfl rfl (by omega) (by decide) (by omega) ?_); intro v2 w2 hown2 hw2 hb2; have HO2 := Lib.hid hown2; clear hown2; have HB2 := Lib.hid hb2; clear hb2)
          go_roundw
          case rel =>
            obtain ⟨o', a1, a2, a3⟩ := HM.out _ _ HO2.out
            exact ⟨k + 1, o', by omega, by simp, a1, a2, by omega, by omega, HB.out.trans HB2.out⟩
          case measure => simp [intOf]; omega
      · have HM := Lib.hid (hmisse (fun a => h37 (by rw [hX]; exact a.1))); clear hmisse hhit
        have HX := Lib.hid hX; clear hX
        have q37 : (X == 37) = false := by simpa using h37
        go_wp2_with (at_builtin; (refine push1 rfl (.tmp 56) (.tmp 60) _ rfl w.heap.size 5 i8 (.int .u8 0) 1 Tryz.underlying37 hi8 hz8 hz81 hz82 (by decide) _ _ _ (Lib.byteCells o) rfl HO1.out (.int .u8 X) rfl rfl (by omega) (by decide) (by omega) ?_); intro v2 w2 hown2 hw2 hb2; have HO2 := Lib.hid hown2; clear hown2; have HB2 := Lib.hid hb2; clear hb2)
        go_roundw
        case rel =>
          obtain ⟨o', a1, a2, a3⟩ := HM.out _ _ HO2.out
          exact ⟨k + 1, o', by omega, by simp, a1, a2, by omega, by omega, HB.out.trans HB2.out⟩
        case measure => simp [intOf]; omega
    · obtain rfl : k = N := by omega
      have he : l.drop k = [] := List.drop_eq_nil_of_le (by have := HSZ.out; omega)
      have hc := HC.out
      rw [he, show pdF [] = [] from by simp [pdF], List.append_nil] at hc
      have HO3 := Lib.hid (show wr.ownsRow w.heap.size 5 1 _ (Lib.byteCells T).length (Lib.byteCells T) by rw [Lib.byteCells_length, ← hc]; exact HO.out)
      go_wp2_with fail
      go_ret
      have h3 := HO3.out
      rw [HT.out] at h3
      exact ⟨_, rfl, h3, HB.out⟩
end Go.Proofs.YtgfklkfbccknoaaGreatDoor
