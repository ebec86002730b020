/- The walk of TextBack. -/
import Derived.Test.YtichfpgamlgocaaDoorLaw02C
namespace Go.Proofs.YtichfpgamlgocaaDoor
open Go.RowKit

theorem fix_bad {c : Int} (h : c < 0 ∨ 1114111 < c ∨ (55296 ≤ c ∧ c ≤ 57343)) : fix c = 65533 := by
  unfold fix; rw [valid_false h]; rfl
theorem fix_good {c : Int} (h : ¬ (c < 0 ∨ 1114111 < c ∨ (55296 ≤ c ∧ c ≤ 57343))) : fix c = c := fix_of (by rw [valid_iff]; omega)

/-- what a slice of numbers shows at its places -/
theorem slice_at {B : Nat} {w : World} {av : Option Addr} {n c : Nat} {l : List Int} (h : Sl B w (.slice av n c) (I64s l)) (k : Nat) (hk : k < l.length) :
    ∃ b o, av = some ⟨b, o, none⟩ ∧ b < B ∧ w.cell? ⟨b, o + k, none⟩ = some (.int .i64 l[k]) := by
  obtain ⟨c', _, _, h⟩ := h
  rcases h with ⟨hn, a, e⟩ | ⟨b, o, hb, e, hat⟩
  · obtain rfl : l = [] := by simpa using hn
    simp at hk
  · injection e with e1 _ _
    refine ⟨b, o, e1, hb, ?_⟩
    have := hat k (by simpa using hk)
    simpa using this
theorem slice_val {B : Nat} {w : World} {v : Value} {xs : List Value} (h : Sl B w v xs) : ∃ a c, v = .slice a xs.length c := by
  obtain ⟨c, _, _, h⟩ := h
  rcases h with ⟨hn, a, rfl⟩ | ⟨b, o, _, rfl, _⟩
  · subst hn; exact ⟨a, c, rfl⟩
  · exact ⟨_, c, rfl⟩
theorem back_1 (l : List Int) : Lib.validD (ls (bs (joinF l))) = true := by rw [ls_bs, validD_eq, rdec_join']; simp
theorem back_2 (l : List Int) : decT (joinF l) = joinF l := by rw [decT_eq, rdec_join']
theorem back_3 (l : List Int) : runes (joinF l) = l.map fix := by
  have h := runes_decT (joinF l)
  have h2 := signs_join l []
  rw [back_2] at h
  rw [List.append_nil, signs_nil, List.append_nil] at h2
  rw [h, h2]

set_option maxHeartbeats 2000000 in
theorem textBack_core (l : List Int) (av : Option Addr) (c : Nat) (w : World) (hsl : Sl w.heap.size w (.slice av l.length c) (I64s l)) (hl : l.length ≤ 200) (hT : Tabs w) :
    Calls Tryd.prog 5 #[.slice av l.length c] w fun e w' => e = .returned (.bool true) ∧ Below w.heap.size w w' := by
  have hat := slice_at hsl
  clear hsl
  obtain ⟨i8, hi8, hz8, hz81, hz82⟩ := info_parts u8_info
  obtain ⟨i0, hi0, hz0, hz1, hz2⟩ := info_parts i64_info
  have HT := Lib.hid hT; clear hT
  have HAT := Lib.hid hat; clear hat
  obtain ⟨L, hL⟩ : ∃ L, L = l.length := ⟨_, rfl⟩
  rw [← hL] at hl ⊢
  have HL := Lib.hid hL; clear hL
  go_enter Tryd.func5, Tryd.ntmps5
  go_wp2_with fail
  refine (small_any _ HT.out).mono ?_
  rintro e w1 ⟨rfl, hb1⟩
  have hs1 := hb1.size
  have HB1 := Lib.hid hb1; clear hb1
  go_wp2
  go_loopw [4, 5, 6] (fun out want i wr => ∃ (k : Nat), k ≤ L ∧ i = .int .i64 k ∧ wr.ownsRow w1.heap.size 5 1 out (joinF (l.take k)).length (Lib.byteCells (joinF (l.take k))) ∧
      wr.ownsRow w1.heap.size 3 1 want k (I64s ((l.take k).map fix)) ∧ w1.heap.size ≤ wr.heap.size ∧ Below w1.heap.size w1 wr) (fun _ _ i _ => L - (intOf i).toNat)
  case atStart => exact ⟨0, by omega, rfl, ⟨by simp [joinF, Lib.byteCells], .inl ⟨rfl, by simp [joinF]⟩⟩, ⟨by simp, .inl ⟨rfl, rfl⟩⟩, Nat.le_refl _, Below.refl _ _⟩
  case round =>
    obtain ⟨k, hk, rfl, hown, hwant, hwz, hbel⟩ := hrel
    have HO := Lib.hid hown; clear hown
    have HW := Lib.hid hwant; clear hwant
    have HB := Lib.hid hbel; clear hbel
    by_cases hlt : k < L
    · have hx : k < l.length := by have := HL.out; omega
      obtain ⟨b, o, rfl, hb, h1⟩ := HAT.out k hx
      have hcell : wr.cell? ⟨b, o + k, none⟩ = some (.int .i64 l[k]) := by
        have h2 := (HB1.out).cell (p := ⟨b, o + k, none⟩) hb
        have h3 := (HB.out).cell (p := ⟨b, o + k, none⟩) (Nat.lt_of_lt_of_le hb hs1)
        rw [h3, h2, h1]
      have hjl := joinF_len (l.take k)
      have hel := enc_len l[k]
      have hkl : (l.take k).length ≤ k := List.length_take_le _ _
      have e1 : joinF (l.take (k + 1)) = joinF (l.take k) ++ enc l[k] := by
        rw [List.take_succ_eq_append_getElem hx, joinF_append]; simp [joinF]
      have e2 : I64s ((l.take (k + 1)).map fix) = I64s ((l.take k).map fix) ++ [.int .i64 (fix l[k])] := by
        rw [List.take_succ_eq_append_getElem hx, List.map_append]; unfold I64s; rw [List.map_append]; rfl
      obtain ⟨x, hxx⟩ : ∃ x, x = l[k] := ⟨_, rfl⟩
      rw [← hxx] at hcell hel e1 e2
      have E1 := Lib.hid e1; clear e1
      have E2 := Lib.hid e2; clear e2
      clear hxx
      have fin : ∀ (v2 v3 : Value) (w2 w3 : World), w2.ownsRow w1.heap.size 5 1 v2 ((joinF (l.take k)).length + (enc x).length) (Lib.byteCells (joinF (l.take k) ++ enc x)) → wr.grownBy w2 u4.ownBlock →
          w3.ownsRow w1.heap.size 3 1 v3 (k + 1) (I64s ((l.take k).map fix) ++ [.int .i64 (fix x)]) → w2.grownBy w3 u5.ownBlock → w2.heap.size < w3.heap.size →
          ∃ k' : Nat, k' ≤ L ∧ Value.int .i64 (k + 1) = .int .i64 k' ∧ w3.ownsRow w1.heap.size 5 1 v2 (joinF (l.take k')).length (Lib.byteCells (joinF (l.take k'))) ∧
            w3.ownsRow w1.heap.size 3 1 v3 k' (I64s ((l.take k').map fix)) ∧ w1.heap.size ≤ w3.heap.size ∧ Below w1.heap.size w1 w3 := by
        intro v2 v3 w2 w3 ho2 hg2 ho3 hg3 hz3
        have hw2 := World.ownsRow.kept HW.out hg2 (own_ne HW.out HO.out (by decide))
        have hs2 := hg2.size
        refine ⟨k + 1, hlt, by simp, ?_, ?_, by omega, ?_⟩
        · rw [E1.out, List.length_append]
          exact World.ownsRow.kept ho2 hg3 (own_ne ho2 hw2 (by decide))
        · rw [E2.out]; exact ho3
        · exact ((HB.out).grown hg2 hwz (fun j hj => (HO.out.lt j hj).1)).grown hg3 (by omega) (fun j hj => (hw2.lt j hj).1)
      have FIN := Lib.hid fin; clear fin
      have hcases : (x < 0 ∧ fix x = 65533) ∨ (1114111 < x ∧ fix x = 65533) ∨ ((55296 ≤ x ∧ x ≤ 57343) ∧ fix x = 65533) ∨ ((0 ≤ x ∧ x < 55296) ∧ fix x = x) ∨ ((57343 < x ∧ x ≤ 1114111) ∧ fix x = x) := by
        by_cases h1 : x < 0
        · exact .inl ⟨h1, fix_bad (.inl h1)⟩
        by_cases h2 : 1114111 < x
        · exact .inr (.inl ⟨h2, fix_bad (.inr (.inl h2))⟩)
        by_cases h3 : 55296 ≤ x ∧ x ≤ 57343
        · exact .inr (.inr (.inl ⟨h3, fix_bad (.inr (.inr h3))⟩))
        · have := fix_good (c := x) (by omega)
          by_cases h4 : x < 55296
          · exact .inr (.inr (.inr (.inl ⟨⟨by omega, h4⟩, this⟩)))
          · exact .inr (.inr (.inr (.inr ⟨⟨by omega, by omega⟩, this⟩)))
      rcases hcases with ⟨hc, hfx⟩ | ⟨hc, hfx⟩ | ⟨⟨hc, hd⟩, hfx⟩ | ⟨⟨hc, hd⟩, hfx⟩ | ⟨⟨hc, hd⟩, hfx⟩
      all_goals have HFX := Lib.hid hfx
      all_goals clear hfx
      all_goals
        (go_wp2_with (first
          | (go_at_call 18; refine (sign_any _ _).mono ?_; rintro e w2 ⟨rfl, rfl⟩)
          | (at_builtin; first
              | (refine push1g rfl (.tmp 42) (.tmp 44) _ rfl w1.heap.size 3 i0 (.int .i64 0) 8 Tryd.underlying25 hi0 hz0 hz1 hz2 (by decide) _ _ k (I64s ((l.take k).map fix)) rfl HW2.out _ rfl rfl (by omega) (by decide) (by have := HZ2.out; omega) ?_; intro v3 w3 hown3 hz3 hg3; have HO3 := Lib.hid hown3; clear hown3; have HG3 := Lib.hid hg3; clear hg3; have HZ3 := Lib.hid hz3; clear hz3)
              | (refine pushSg rfl (.tmp 24) (.tmp 26) _ _ rfl w1.heap.size 5 i8 Tryd.underlying22 Tryd.underlying9 hi8 hz8 hz81 hz82 _ _ _ (joinF (l.take k)) rfl HO.out (enc x) rfl (by omega) hwz ?_; intro v2 w2 hown2 hg2; have HO2 := Lib.hid hown2; clear hown2; have HW2 := Lib.hid (World.ownsRow.kept HW.out hg2 (own_ne HW.out HO.out (by decide))); have HZ2 := Lib.hid hg2.size; have HG2 := Lib.hid hg2; clear hg2))))
      all_goals
        (go_roundw
         case rel =>
           have ho3 := HO3.out
           refine FIN.out _ _ _ _ HO2.out HG2.out ?_ HG3.out HZ3.out
           rw [HFX.out]; exact HO3.out
         case measure => simp [intOf]; omega)
    · obtain rfl : k = L := by omega
      have e1 : l.take k = l := List.take_of_length_le (by have := HL.out; omega)
      have ho := HO.out
      have hw := HW.out
      rw [e1] at ho hw
      have kc := conv_own Tryd.underlying22 Tryd.underlying5 Tryd.underlying9 ho
      have HO1 := Lib.hid ho; clear ho
      have HW1 := Lib.hid hw; clear hw
      clear HO HW e1
      have hbj : (bs (joinF l)).size ≤ 800 := by have := joinF_len l; have := HL.out; rw [bs_size]; omega
      have HBJ := Lib.hid hbj; clear hbj
      have HBW := Lib.hid ((HB1.out).trans ((HB.out).mono hs1))
      go_wp2_with fail
      refine (right_val (bs (joinF l)) true _ (back_1 l) (by have := HBJ.out; omega) (HT.out.below HBW.out)).mono ?_
      rintro e w2 ⟨rfl, hb2⟩
      have HO2 := Lib.hid (own_below HO1.out hb2)
      have HW2 := Lib.hid (own_below HW1.out hb2)
      have HB2 := Lib.hid (HBW.out.trans (hb2.mono HBW.out.size)); clear hb2
      go_wp2_with fail
      refine (decode_any (joinF l) _ _ (Sl.of_own HO2.out) (by have := HBJ.out; rw [bs_size] at this; omega) (HT.out.below HB2.out)).mono ?_
      rintro e w3 ⟨rfl, hb3⟩
      have HW3 := Lib.hid (own_below HW2.out hb3)
      have HB3 := Lib.hid (HB2.out.trans (hb3.mono HB2.out.size)); clear hb3
      rw [back_2]
      have g1 : ((bs (joinF l)).toList == (bs (joinF l)).toList) = true := by simp
      go_wp2_with fail
      refine (signsT_any _ _ (by have := HBJ.out; omega) (HT.out.below HB3.out)).mono ?_
      rintro e w4 ⟨v4, rfl, ho4, hb4⟩
      rw [ls_bs, back_2, back_3] at ho4
      have HO4 := Lib.hid ho4; clear ho4
      have HW4 := Lib.hid (own_below HW3.out hb4)
      have HB4 := Lib.hid (HB3.out.trans (hb4.mono HB3.out.size)); clear hb4
      go_wp2_with fail
      refine (ints_any _ _ _ _ _ _ _ (Sl.of_own HO4.out) (Sl.of_own HW4.out)).mono ?_
      rintro e w5 ⟨rfl, hb5⟩
      have HB5 := Lib.hid (HB4.out.trans (hb5.mono HB4.out.size)); clear hb5
      go_wp2
      go_ret
      exact ⟨ret1_bool (by simp), HB5.out⟩

theorem textBack_walk (v : Value) (l : List Int) (w : World) (h : Sl w.heap.size w v (I64s l)) (_ : ∀ n ∈ l, (Lit.int .i64 n).wf = true) (hT : Tabs w) :
    Calls Tryd.prog 5 #[v] w fun e w' => e = .returned (.bool true) ∧ Below w.heap.size w w' := by
  obtain ⟨av, cv, rfl⟩ := slice_val h
  rw [show (I64s l).length = l.length by simp] at h ⊢
  by_cases hlt : l.length ≤ 200
  · exact textBack_core l av cv w h hlt hT
  · have HT := Lib.hid hT; clear hT
    clear h
    obtain ⟨L, hL⟩ : ∃ L, L = l.length := ⟨_, rfl⟩
    rw [← hL] at hlt ⊢
    clear hL
    go_enter Tryd.func5, Tryd.ntmps5
    go_wp2_with fail
    refine (small_any _ HT.out).mono ?_
    rintro e w1 ⟨rfl, hb1⟩
    have HB1 := Lib.hid hb1; clear hb1
    go_wp2
    go_ret
    exact ⟨rfl, HB1.out⟩
end Go.Proofs.YtichfpgamlgocaaDoor
