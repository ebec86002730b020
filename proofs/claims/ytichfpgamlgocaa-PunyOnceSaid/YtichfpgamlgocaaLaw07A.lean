/- The walk of PunyApart. -/
import Derived.Test.YtichfpgamlgocaaPunZ
namespace Go.Proofs.Ytichfpgamlgocaa
open Go.RowKit

theorem encR_cases (l : List Int) : encR l = ([], false) ∨ (encR l = (encF l, true) ∧ (∀ c ∈ l, sg c = true) ∧ l.length ≤ 255) := by
  by_cases h : 255 < l.length ∨ ¬ l.all sg = true
  · left; unfold encR; rw [if_pos h]
  · right
    have h1 : l.all sg = true := by
      by_cases h2 : l.all sg = true
      · exact h2
      · exact absurd (.inr h2) h
    exact ⟨by unfold encR; rw [if_neg h], List.all_eq_true.mp h1, by omega⟩
theorem encF_inj {l m : List Int} (hl : ∀ c ∈ l, sg c = true) (hl2 : l.length ≤ 255) (hm : ∀ c ∈ m, sg c = true) (hm2 : m.length ≤ 255) : (encF l = encF m) ↔ l = m := by
  constructor
  · intro h
    have h1 := dec_of_enc hl hl2
    rw [h, dec_of_enc hm hm2] at h1
    exact (Option.some.inj h1).symm
  · intro h; rw [h]
theorem encode_val (l : List Int) (v : Value) (o : Bytes) (b : Bool) (w : World) (B : Nat) (h : Sl B w v (I64s l)) (hB : B ≤ w.heap.size) (hr : encR l = (o, b)) :
    Calls Try.prog 9 #[v] w fun e w' => e = .returned (.tuple #[S o, .bool b]) ∧ Below w.heap.size w w' :=
  (encode_any l v w (h.more hB)).mono fun e w' h' => ⟨by rw [h'.1, hr], h'.2⟩

set_option maxHeartbeats 1000000 in
theorem punyApart_walk (v1 : Value) (l : List Int) (v2 : Value) (m : List Int) (w : World) (h1 : Sl w.heap.size w v1 (I64s l)) (_ : ∀ n ∈ l, (Lit.int .i64 n).wf = true) (h2 : Sl w.heap.size w v2 (I64s m)) (_ : ∀ n ∈ m, (Lit.int .i64 n).wf = true) :
    Calls Try.prog 5 #[v1, v2] w fun e w' => e = .returned (.bool true) ∧ Below w.heap.size w w' := by
  have H1 := Lib.hid h1; clear h1
  have H2 := Lib.hid h2; clear h2
  have hc : ∃ (A B : Bytes) (a b : Bool), encR l = (A, a) ∧ encR m = (B, b) ∧ (a = true → b = true → ((bs A).toList == (bs B).toList) = decide (l = m)) := by
    rcases encR_cases l with e1 | ⟨e1, f1, g1⟩
    · exact ⟨_, (encR m).1, _, (encR m).2, e1, rfl, fun h => absurd h (by simp)⟩
    · rcases encR_cases m with e2 | ⟨e2, f2, g2⟩
      · exact ⟨_, _, _, _, e1, e2, fun _ h => absurd h (by simp)⟩
      · refine ⟨_, _, _, _, e1, e2, fun _ _ => ?_⟩
        rw [toList_bs, toList_bs, eq_dec]
        exact decide_eq_decide.mpr (encF_inj f1 g1 f2 g2)
  obtain ⟨A, B, a, b, ha, hb, hab⟩ := hc
  have HA := Lib.hid ha; clear ha
  have HB := Lib.hid hb; clear hb
  have hin := fun (w' : World) (hb : Below w.heap.size w w') => ints_any l m v1 v2 w' _ _ (H1.out.below hb) (H2.out.below hb)
  obtain ⟨r, hr⟩ : ∃ r, r = decide (l = m) := ⟨_, rfl⟩
  rw [← hr] at hab hin
  clear hr
  have HIN := Lib.hid hin; clear hin
  cases a <;> cases b
  all_goals
    try have hg := hab rfl rfl
    clear hab
    go_enter Try.func5, Try.ntmps5
    go_wp2_with fail
    refine (small7_any _).mono ?_
    rintro e w1 ⟨rfl, hb1⟩
    have HB1 := Lib.hid hb1; clear hb1
    go_wp2_with fail
    refine (encode_val l _ A _ _ _ (H1.out.below HB1.out) (HB1.out.size) HA.out).mono ?_
    rintro e w2 ⟨rfl, hb2⟩
    have HB2 := Lib.hid (HB1.out.trans (hb2.mono HB1.out.size)); clear hb2
    go_wp2_with fail
    refine (encode_val m _ B _ _ _ (H2.out.below HB2.out) (HB2.out.size) HB.out).mono ?_
    rintro e w3 ⟨rfl, hb3⟩
    have HB3 := Lib.hid (HB2.out.trans (hb3.mono HB2.out.size)); clear hb3
    go_wp2_with (first
      | (go_at_call 13; refine (HIN.out _ HB3.out).mono ?_; rintro e w4 ⟨rfl, hb4⟩; replace HB3 := Lib.hid (HB3.out.trans (hb4.mono HB3.out.size)); clear hb4)
      | fail)
    go_ret
    exact ⟨ret1_bool (by first | rfl | (rw [hg]; cases r <;> rfl) | (cases r <;> rfl)), HB3.out⟩
end Go.Proofs.Ytichfpgamlgocaa
