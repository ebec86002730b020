/- The walk of PunyTells. -/
import Derived.Test.YtichfpgamlgocaaLaw07A
import Derived.Test.YtichfpgamlgocaaPunL
namespace Go.Proofs.Ytichfpgamlgocaa
open Go.RowKit

set_option maxHeartbeats 2000000 in
theorem punyTells_walk (v : Value) (l : List Int) (s : ByteArray) (w : World) (h : Sl w.heap.size w v (I64s l)) (_ : ∀ n ∈ l, (Lit.int .i64 n).wf = true) (_ : s.size ≤ maxLen) :
    Calls Try.prog 3 #[v, .string s] w fun e w' => e = .returned (.bool true) ∧ Below w.heap.size w w' := by
  obtain ⟨av, c, rfl⟩ := slice_val h
  rw [show (I64s l).length = l.length by simp] at h ⊢
  have hen := fun (W : World) (hb : Below w.heap.size w W) => encode_any l (.slice av l.length c) W ((h.below hb).more hb.size)
  have hrn := fun (W : World) (hb : Below w.heap.size w W) (hl : l.length ≤ 300) => rencode_any l (.slice av l.length c) W ((h.below hb).more hb.size)
  have hd := fun (W : World) (hs : (ls s).length ≤ 100000) => decode_core (ls s) W hs
  have hr := fun (W : World) (hs : (ls s).length ≤ 100000) => rdecode_any (ls s) W hs
  rw [bs_ls] at hd hr
  obtain ⟨A, hA⟩ : ∃ A, A = (encR l).1 := ⟨_, rfl⟩
  obtain ⟨a, ha⟩ : ∃ a, a = (encR l).2 := ⟨_, rfl⟩
  obtain ⟨D, hD⟩ : ∃ D, D = decF (ls s) := ⟨_, rfl⟩
  rw [← hA, ← ha] at hen hrn
  rw [← hD] at hd hr
  clear hA ha hD
  have hsl : (ls s).length = s.size := ls_length s
  rw [hsl] at hd hr
  obtain ⟨L, hL⟩ : ∃ L, L = l.length := ⟨_, rfl⟩
  rw [← hL] at hen hrn ⊢
  clear hL h hsl
  have HEN := Lib.hid hen; clear hen
  have HRN := Lib.hid hrn; clear hrn
  have HD := Lib.hid hd; clear hd
  have HR := Lib.hid hr; clear hr
  have hcs : 300 < L ∨ (L ≤ 300 ∧ 400 < s.size) ∨ (L ≤ 300 ∧ s.size ≤ 400) := by omega
  rcases hcs with hc | ⟨hc, hc2⟩ | ⟨hc, hc2⟩
  · go_enter Try.func3, Try.ntmps3
    go_wp2_with fail
    refine (small7_any _).mono ?_
    rintro e w1 ⟨rfl, hb1⟩
    have HB1 := Lib.hid hb1; clear hb1
    go_wp2_with fail
    go_ret
    exact ⟨rfl, HB1.out⟩
  · go_enter Try.func3, Try.ntmps3
    go_wp2_with fail
    refine (small7_any _).mono ?_
    rintro e w1 ⟨rfl, hb1⟩
    have HB1 := Lib.hid hb1; clear hb1
    go_wp2_with fail
    go_ret
    exact ⟨rfl, HB1.out⟩
  · go_enter Try.func3, Try.ntmps3
    go_wp2_with fail
    refine (small7_any _).mono ?_
    rintro e w1 ⟨rfl, hb1⟩
    have HB1 := Lib.hid hb1; clear hb1
    go_wp2_with fail
    refine (HEN.out _ HB1.out).mono ?_
    rintro e w2 ⟨rfl, hb2⟩
    have HB2 := Lib.hid (HB1.out.trans (hb2.mono HB1.out.size)); clear hb2
    go_wp2_with fail
    refine (HRN.out _ HB2.out hc).mono ?_
    rintro e w3 ⟨rfl, hb3⟩
    have HB3 := Lib.hid (HB2.out.trans (hb3.mono HB2.out.size)); clear hb3
    go_wp2_with fail
    refine (HD.out _ (by omega)).mono ?_
    rintro e w4 ⟨v4, rfl, ho4, _, hb4⟩
    have HB4 := Lib.hid (HB3.out.trans (hb4.mono HB3.out.size)); clear hb4
    have HO4 := Lib.hid ho4; clear ho4
    go_wp2_with fail
    refine (HR.out _ (by omega)).mono ?_
    rintro e w5 ⟨v5, rfl, ho5, _, hb5⟩
    have HB5 := Lib.hid (HB4.out.trans (hb5.mono HB4.out.size))
    have HO5 := Lib.hid (own_below HO4.out hb5); clear hb5
    have HP5 := Lib.hid ho5; clear ho5
    have hin := fun (W : World) (hb : Below w5.heap.size w5 W) => ints_any (D.getD []) (D.getD []) v4 v5 W _ _ ((Sl.of_own HO5.out).below hb) ((Sl.of_own HP5.out).below hb)
    have HIN := Lib.hid hin; clear hin
    have haa : ((bs A).toList == (bs A).toList) = true := by simp
    go_wp2_with (first
      | (go_at_call 13; refine (HIN.out _ (Below.refl _ _)).mono ?_; rintro e w6 ⟨rfl, hb6⟩; replace HB5 := Lib.hid (HB5.out.trans (hb6.mono HB5.out.size)); clear hb6)
      | fail)
    go_ret
    exact ⟨ret1_bool (by simp), HB5.out⟩
end Go.Proofs.Ytichfpgamlgocaa
