/- The walk of TextDecodes. -/
import Derived.Test.YtichfpgamlgocaaDoorTextS
namespace Go.Proofs.YtichfpgamlgocaaDoor
open Go.RowKit

theorem own_empty (w : World) (e : TypeId) : (w.alloc (.cells #[] e)).ownsRow 0 e 1 (.slice (some ⟨w.heap.size, 0, none⟩) 0 0) 0 (Lib.byteCells []) :=
  ⟨by simp [Lib.byteCells], .inr ⟨w.heap.size, 0, #[], rfl, Nat.zero_le _, heap_alloc_new w _, Nat.le_refl _, by simp, rfl, rfl⟩⟩
/-- a copy of a row of bytes -/
theorem copy_bytes {P : Program} (w : World) (t ty e : TypeId) (i : TypeInfo) (ht : P.underlying t = some (.slice e)) (hi : P.info? e = some i) (hz : i.zero = some (.int .u8 0))
    (hsize : i.size = 1) (hby : i.bytes = 1) (m : Bytes) (hlen : m.length ≤ 1000000) (x : Value) (hx : Sl w.heap.size w x (Lib.byteCells m)) :
    ∃ v' w', (Builtin.append_ #[t, t] ty #[.slice (some ⟨w.heap.size, 0, none⟩) 0 0, x]).run P (w.alloc (.cells #[] e)) = .ok v' w' ∧ Sl w'.heap.size w' v' (Lib.byteCells m) ∧ Below w.heap.size w w' := by
  have hx1 : Sl w.heap.size (w.alloc (.cells #[] e)) x (Lib.byteCells m) := hx.below ((Below.refl _ _).alloc (Nat.le_refl _) _)
  obtain ⟨v', w', hr, ho, hgr, _⟩ := append_sl (P := P) (w.alloc (.cells #[] e)) t ty e i ht hi hz hsize hby _ 0 [] m (own_empty w e) (by omega) w.heap.size x hx1
  refine ⟨v', w', hr, Sl.of_own ho, ?_⟩
  exact ((Below.refl _ _).alloc (Nat.le_refl _) _).grown hgr (by simp) (fun k hk => by simp [Value.ownBlock] at hk; omega)

set_option maxHeartbeats 1000000 in
theorem textDecodes_walk (v : Value) (l : Bytes) (w : World) (h : Sl w.heap.size w v (Lib.byteCells l)) (hT : Tabs w) :
    Calls Tryd.prog 3 #[v] w fun e w' => e = .returned (.bool true) ∧ Below w.heap.size w w' := by
  obtain ⟨i8, hi8, hz8, hz81, hz82⟩ := info_parts u8_info
  obtain ⟨av, cv, rfl⟩ : ∃ a c, v = .slice a l.length c := by
    obtain ⟨c, _, _, h⟩ := h
    rcases h with ⟨hn, a, rfl⟩ | ⟨b, o, _, rfl, _⟩
    · obtain rfl : l = [] := by simpa [Lib.byteCells] using hn
      exact ⟨a, c, rfl⟩
    · exact ⟨_, c, by rw [Lib.byteCells_length]⟩
  have HT := Lib.hid hT; clear hT
  have H := Lib.hid h; clear h
  obtain ⟨L, hL⟩ : ∃ L, L = l.length := ⟨_, rfl⟩
  rw [← hL] at H ⊢
  by_cases hlt : 1000 < L
  · clear hL
    go_enter Tryd.func3, Tryd.ntmps3
    go_wp2_with fail
    refine (small_any _ HT.out).mono ?_
    rintro e w1 ⟨rfl, hb1⟩
    have HB1 := Lib.hid hb1; clear hb1
    go_wp2
    go_ret
    exact ⟨rfl, HB1.out⟩
  · have hL2 : l.length ≤ 1000 := by omega
    have HL := Lib.hid hL; clear hL
    go_enter Tryd.func3, Tryd.ntmps3
    go_wp2_with fail
    refine (small_any _ HT.out).mono ?_
    rintro e w1 ⟨rfl, hb1⟩
    have hs1 : Sl w1.heap.size w1 (.slice av L cv) (Lib.byteCells l) := ((H.out).below hb1).more hb1.size
    have HB1 := Lib.hid hb1; clear hb1
    have kc := conv_any Tryd.underlying22 Tryd.underlying5 Tryd.underlying9 hs1
    obtain ⟨v2, w2, hr2, hsl2, hb2⟩ := copy_bytes (P := Tryd.prog) w1 22 22 5 i8 Tryd.underlying22 hi8 hz8 hz81 hz82 l (by omega) _ hs1
    have HR2 := Lib.hid hr2; clear hr2
    have HS1 := Lib.hid hs1; clear hs1
    have HS2 := Lib.hid hsl2; clear hsl2
    have HB2 := Lib.hid (HB1.out.trans (hb2.mono HB1.out.size)); clear hb2
    go_wp2_with (first | (at_builtin; go_must (refine append_run rfl (.tmp 15) (.tmp 16) _ _ rfl _ _ _ _ rfl rfl HR2.out ?_)) | fail)
    refine (decode_any l _ _ HS2.out (by omega) (HT.out.below HB2.out)).mono ?_
    rintro e w3 ⟨rfl, hb3⟩
    have HS3 := Lib.hid (((HS2.out).below hb3).more hb3.size)
    have HB3 := Lib.hid (HB2.out.trans (hb3.mono HB2.out.size)); clear hb3
    clear kc
    go_wp2_with fail
    refine (signsT_any _ _ (by rw [bs_size]; omega) (HT.out.below HB3.out)).mono ?_
    rintro e w4 ⟨v4, rfl, ho4, hb4⟩
    rw [ls_bs, runes_decT] at ho4
    have HO4 := Lib.hid ho4; clear ho4
    have HS4 := Lib.hid (((HS3.out).below hb4).more hb4.size)
    have HB4 := Lib.hid (HB3.out.trans (hb4.mono HB3.out.size)); clear hb4
    go_wp2_with fail
    have hs4 : Sl w4.heap.size w4 (.slice av L cv) (Lib.byteCells l) := ((H.out).below HB4.out).more (HB4.out).size
    refine (rdecode_any l _ _ _ hs4 (by omega)).mono ?_
    rintro e w5 ⟨rfl, hb5⟩
    have HO5 := Lib.hid (own_below HO4.out hb5)
    have HS5 := Lib.hid (((HS4.out).below hb5).more hb5.size)
    have HB5 := Lib.hid (HB4.out.trans (hb5.mono HB4.out.size)); clear hb5 hs4
    have g1 : ((bs (decT l)).toList == (bs (rdec l)).toList) = true := by rw [decT_eq]; simp
    go_wp2_with fail
    refine (right_any _ _ (by rw [bs_size]; omega) (HT.out.below HB5.out)).mono ?_
    rintro e w6 ⟨rfl, hb6⟩
    rw [ls_bs]
    have HO6 := Lib.hid (own_below HO5.out hb6)
    have HS6 := Lib.hid (((HS5.out).below hb6).more hb6.size)
    have HB6 := Lib.hid (HB5.out.trans (hb6.mono HB5.out.size)); clear hb6
    go_wp2_with fail
    refine (rright_any _ _ (by rw [bs_size]; omega)).mono ?_
    rintro e w7 ⟨rfl, hb7⟩
    rw [ls_bs]
    have HO7 := Lib.hid (own_below HO6.out hb7)
    have HS7 := Lib.hid (((HS6.out).below hb7).more hb7.size)
    have HB7 := Lib.hid (HB6.out.trans (hb7.mono HB6.out.size)); clear hb7
    have g2 : (Lib.validD l == decide (rdec l = l)) = true := by rw [validD_eq]; simp
    rw [validD_eq]
    go_wp2_with fail
    refine (rsigns_any _ _ (by rw [bs_size]; omega)).mono ?_
    rintro e w8 ⟨v8, rfl, ho8, hb8⟩
    rw [ls_bs] at ho8
    have HP8 := Lib.hid ho8; clear ho8
    have HO8 := Lib.hid (own_below HO7.out hb8)
    have HS8 := Lib.hid (((HS7.out).below hb8).more hb8.size)
    have HB8 := Lib.hid (HB7.out.trans (hb8.mono HB7.out.size)); clear hb8
    go_wp2_with fail
    refine (ints_any _ _ _ _ _ _ _ (Sl.of_own HO8.out) (Sl.of_own HP8.out)).mono ?_
    rintro e w9 ⟨rfl, hb9⟩
    have hs9 := ((HS8.out).below hb9)
    have HB9 := Lib.hid (HB8.out.trans (hb9.mono HB8.out.size)); clear hb9
    have kc9 := conv_any Tryd.underlying22 Tryd.underlying5 Tryd.underlying9 hs9
    go_wp2
    go_ret
    exact ⟨ret1_bool (by simp), HB9.out⟩
end Go.Proofs.YtichfpgamlgocaaDoor
