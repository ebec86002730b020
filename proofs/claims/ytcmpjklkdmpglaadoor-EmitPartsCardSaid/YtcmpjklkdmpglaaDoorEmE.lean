/- Which addresses are few: tamislaw12.Few. -/
import Derived.Test.YtcmpjklkdmpglaaDoorEmD
namespace Go.Proofs.YtcmpjklkdmpglaaDoor
open Go.RowKit
set_option maxRecDepth 10000

theorem UrlFew.sm {u : Url} (h : UrlFew u) : UrlSm u := by
  have h1 := joinP_len u.path
  exact ⟨by have := h.sch; omega, by have := h.usr; omega, by have := h.pas; omega, by have := h.name; omega, by have := h.flat; omega, by have := h.path; have := h.tot; omega, by have := h.q; omega, by have := h.f; omega⟩
def lenS (l : List Bytes) : Nat := (l.map List.length).sum
theorem lenS_take (l : List Bytes) (k : Nat) (hk : k < l.length) : lenS (l.take (k + 1)) = lenS (l.take k) + l[k].length := by
  unfold lenS
  rw [List.take_succ_eq_append_getElem hk, List.map_append, List.sum_append, List.map_cons, List.map_nil, List.sum_cons, List.sum_nil, Nat.add_zero]
/-- what a test answers, of which only its yes tells -/
def RetF (G : Prop) (e : Ending) : Prop := ∃ b, e = .returned (.bool b) ∧ (b = true → G)
theorem RetF.ff {G : Prop} : RetF G (.returned (.bool false)) := ⟨false, rfl, fun h => (by cases h)⟩
theorem RetF.of {G : Prop} {b : Bool} (h : b = true → G) : RetF G (.returned (.bool b)) := ⟨b, rfl, h⟩

set_option maxHeartbeats 8000000 in
theorem few12_any (u : Url) (cs : Array Value) (pv : Value) (w : World) (h : UrlAt cs pv u) (hp : Sl w.heap.size w pv (u.path.map S)) :
    Calls Tryd.prog 7 #[.agg cs] w fun e w' => RetF (UrlFew u) e ∧ Below w.heap.size w w' := by
  have h0 := h.sch
  have h1 := h.usr
  have h2 := h.pas
  have h4 : cs[4]? = some (S u.host.name) := h.hostC 1 (by omega)
  have h17 := h.flat
  have h18 := h.path
  have h20 := h.q
  have h22 := h.f
  clear h
  obtain ⟨Good, hGood⟩ : ∃ Good : Prop, Good = UrlFew u := ⟨_, rfl⟩
  rw [← hGood]
  have hmk : u.path.length ≤ 50 → lenS u.path ≤ 2000 → u.sch.length ≤ 100 → u.usr.length ≤ 500 → u.pas.length ≤ 500 → u.flat.length ≤ 1000 → u.q.length ≤ 1000 → u.f.length ≤ 1000 → u.host.name.length ≤ 500 → Good := by
    intro a1 a2 a3 a4 a5 a6 a7 a8 a9
    rw [hGood]
    exact ⟨a1, a2, a3, a4, a5, a6, a7, a8, a9⟩
  clear hGood
  generalize u.sch = sch at *
  generalize u.usr = usr at *
  generalize u.pas = pas at *
  generalize u.host.name = nam at *
  generalize u.flat = flat at *
  generalize u.path = path at *
  generalize u.q = q at *
  generalize u.f = f at *
  obtain ⟨av, cc, hpv⟩ := slice_val hp
  rw [List.length_map] at hpv
  subst hpv
  obtain ⟨N, hN⟩ : ∃ N, N = path.length := ⟨_, rfl⟩
  rw [← hN] at h18 hp
  have HN := Lib.hid hN; clear hN
  have HP := Lib.hid hp; clear hp
  have HMK := Lib.hid hmk; clear hmk
  go_enter Tryd.func7, Tryd.ntmps7
  go_wp2_with (first
    | (refine boxed rfl _ _ rfl cs rfl ?_; intro bx w1 hb1 hb2 hb3 hb4 hb5; have c18 := (hb4 18).trans h18; have HC := Lib.hid (And.intro ((hb4 0).trans h0) (And.intro ((hb4 1).trans h1) (And.intro ((hb4 2).trans h2) (And.intro ((hb4 4).trans h4) (And.intro ((hb4 17).trans h17) (And.intro ((hb4 20).trans h20) ((hb4 22).trans h22))))))); have HB := Lib.hid hb5; clear hb1 hb2 hb3 hb4 hb5)
    | fail)
  go_loopw [3, 4] (fun nv iv wr => ∃ k : Nat, k ≤ N ∧ k ≤ 100 ∧ iv = .int .i64 k ∧ (∃ s : Nat, nv = .int .i64 s ∧ s ≤ 500 * k ∧ Hid (s = lenS (path.take k))) ∧ w1 = wr) (fun _ i _ => N - (intOf i).toNat)
  case atStart => exact ⟨0, by omega, by omega, by simp, ⟨0, by simp, by omega, rfl⟩, rfl⟩
  case round =>
    obtain ⟨k, hk, hk1, rfl, ⟨s, rfl, hs5, hs⟩, rfl⟩ := hrel
    by_cases hlt : k < N ∧ k < 100
    · have hkl : k < path.length := by rw [← HN.out]; exact hlt.1
      have h1i : (k : Int) < N := by omega
      have h2i : (k : Int) < 100 := by omega
      obtain ⟨b, o, rfl, hbb, hcc⟩ := strs_at (HP.out.below HB.out) k hkl
      have hst := lenS_take path k hkl
      rw [← hs.out] at hst
      generalize path[k] = piece at hcc hst
      have HST := Lib.hid hst; clear hst hlt hs
      by_cases h5 : (500 : Int) < piece.length
      · go_wp2_with fail
        go_ret
        exact ⟨RetF.ff, HB.out⟩
      · go_wp2_with fail
        go_roundw
        case rel => exact ⟨k + 1, by omega, by omega, by simp, ⟨s + piece.length, by simp, by omega, HST.out.symm⟩, by trivial⟩
        case measure => simp [intOf]; omega
    · have hcs : k = N ∨ (k < N ∧ k = 100) := by omega
      have h5 : ¬ ((N : Int) ≤ 50) ∨ ((N : Int) ≤ 50 ∧ k = N) := by omega
      have hsk : k = N → s = lenS path := by
        rintro rfl
        rw [hs.out]
        conv => rhs; rw [← List.take_length (l := path), ← HN.out]
      have HSK := Lib.hid hsk; clear hsk hs hlt
      obtain ⟨c0, c1, c2, c4, c17, c20, c22⟩ := HC.out
      have hex : ∀ W : World, True := fun _ => trivial
      clear hex
      have hmk := HMK.out
      rw [← HN.out] at hmk
      have HMK2 := Lib.hid hmk; clear hmk
      rcases h5 with h5 | ⟨h5, rfl⟩
      · rcases hcs with hcs | ⟨hcs, hcs2⟩
        · have t1 : ¬ (k : Int) < N := by omega
          go_wp2_with fail
          go_ret
          exact ⟨RetF.ff, HB.out⟩
        · have t1 : (k : Int) < N := by omega
          have t2 : ¬ (k : Int) < 100 := by omega
          clear hcs hcs2
          go_wp2_with fail
          go_ret
          exact ⟨RetF.ff, HB.out⟩
      · have HSL := Lib.hid (HSK.out rfl); clear hcs HSK
        go_wp2_with fail
        all_goals
          go_ret
          refine ⟨RetF.of fun h => ?_, HB.out⟩
          have hsl := HSL.out
          first
            | (cases h; done)
            | (refine HMK2.out (by omega) (by rw [← hsl]; simp_all; omega) ?_ ?_ ?_ ?_ ?_ ?_ ?_ <;> (simp_all; try omega))
end Go.Proofs.YtcmpjklkdmpglaaDoor
