/- serial.Path. -/
import Derived.Test.YtcmpjklkdmpglaaDoorEmB
namespace Go.Proofs.YtcmpjklkdmpglaaDoor
open Go.RowKit
set_option maxRecDepth 10000

theorem joinP_take (l : List Bytes) (k : Nat) (hk : k < l.length) : joinP (l.take (k + 1)) = joinP (l.take k) ++ [47] ++ l[k] := by
  rw [List.take_succ_eq_append_getElem hk, joinP_snoc]
theorem joinP_take_len (l : List Bytes) (k : Nat) : (joinP (l.take k)).length ≤ (joinP l).length := by
  conv => rhs; rw [← List.take_append_drop k l]
  rw [joinP_app, List.length_append]
  omega

theorem spath_any (u : Url) (cs : Array Value) (pv : Value) (w : World) (h : UrlAt cs pv u) (hp : Sl w.heap.size w pv (u.path.map S)) (hl : (joinP u.path).length ≤ 1000000) :
    Calls Tryd.prog 28 #[.agg cs] w fun e w' => e = .returned (S (pathF u)) ∧ Below w.heap.size w w' := by
  have h1 := h.opq
  have h2 := h.flat
  have h3 := h.path
  clear h
  obtain ⟨R, hR⟩ : ∃ R, R = pathF u := ⟨_, rfl⟩
  rw [← hR]
  unfold pathF at hR
  generalize u.flat = fl at h2 hR
  generalize u.path = ps at hp hl hR
  cases ho : u.opq
  · rw [ho] at h1 hR
    obtain ⟨av, c, hpv⟩ := slice_val hp
    rw [List.length_map] at hpv
    subst hpv
    obtain ⟨N, hN⟩ : ∃ N, N = ps.length := ⟨_, rfl⟩
    rw [← hN] at h3 hp
    have hNl := joinP_len ps
    have hNm : N ≤ 1000000 := by omega
    clear hNl
    have HN := Lib.hid hN; clear hN
    have HL := Lib.hid hl; clear hl
    have HP := Lib.hid hp; clear hp
    have hR2 : R = joinP ps := hR
    clear hR
    have HR := Lib.hid hR2; clear hR2
    clear ho h2
    go_enter Tryd.func28, Tryd.ntmps28
    go_wp2_with (first | (refine boxed rfl _ _ rfl cs rfl ?_; intro bx w1 hb1 hb2 hb3 hb4 hb5; have c1 := (hb4 16).trans h1; have c2 := (hb4 18).trans h3; clear hb4 hb3))
    have HB := Lib.hid hb5; clear hb5 hb1 hb2
    go_loopw [13] (fun iv wr => ∃ k : Nat, k ≤ N ∧ iv = .int .i64 k ∧ Hid (Hb w1 (joinP (ps.take k)) wr)) (fun i _ => N - (intOf i).toNat)
    case atStart => exact ⟨0, by omega, by simp, Hb.fresh w1⟩
    case round =>
      obtain ⟨k, hk, rfl, hbd⟩ := hrel
      by_cases hlt : k < N
      · have hkl : k < ps.length := by rw [← HN.out]; exact hlt
        obtain ⟨b, o, rfl, hbb, hcc⟩ := strs_at ((HP.out.below HB.out).below (hbd.out.bel.mono HB.out.size)) k hkl
        have hjt := joinP_take ps k hkl
        have hjl := joinP_take_len ps (k + 1)
        have hL := HL.out
        rw [hjt] at hjl
        simp only [List.length_append, List.length_cons, List.length_nil] at hjl
        generalize ps[k] = piece at hcc hjt hjl
        have hj1 : (joinP (ps.take k)).length + 1 + piece.length ≤ 1000000 := by omega
        clear hjl hL
        have HJ := Lib.hid hjt; clear hjt
        have HJ1 := Lib.hid hj1; clear hj1
        go_wp2_with (first
          | (go_at_call 24; refine (Hb.wb1 47 _ rfl hbd.out (by have := HJ1.out; omega)).mono ?_; rintro e w2 ⟨rfl, hbd2⟩; have HBD2 := Lib.hid hbd2; clear hbd2)
          | (go_at_call 23; refine (Hb.ws piece HBD2.out (by have := HJ1.out; simp; omega)).mono ?_; rintro e w3 ⟨rfl, hbd3⟩; have HBD3 := Lib.hid hbd3; clear hbd3)
          | fail)
        go_roundw
        case rel => exact ⟨k + 1, by omega, by simp, by rw [HJ.out]; exact HBD3⟩
        case measure => simp [intOf]; omega
      · obtain rfl : k = N := by omega
        go_wp2_with (first | (go_at_call 29; refine (Hb.str hbd.out).mono ?_; rintro e w2 ⟨rfl, hb2⟩; have HB2 := Lib.hid hb2; clear hb2) | fail)
        go_ret
        refine ⟨?_, HB.out.trans (HB2.out.mono HB.out.size)⟩
        rw [HR.out, HN.out, List.take_length]; rfl
  · rw [ho] at h1 hR
    have hR2 : R = fl := hR
    clear hR hp hl
    subst hR2
    go_enter Tryd.func28, Tryd.ntmps28
    go_wp2_with (first | (refine boxed rfl _ _ rfl cs rfl ?_; intro bx w1 hb1 hb2 hb3 hb4 hb5; have c1 := (hb4 16).trans h1; have c2 := (hb4 17).trans h2; clear hb4 hb3))
    go_ret
    exact ⟨rfl, hb5⟩
end Go.Proofs.YtcmpjklkdmpglaaDoor
