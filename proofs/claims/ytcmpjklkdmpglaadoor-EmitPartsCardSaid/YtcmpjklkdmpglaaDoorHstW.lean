/- Hosts as texts: host.Write, the reference's Write. -/
import Derived.Test.YtcmpjklkdmpglaaDoorNumC
import Derived.Test.YtcmpjklkdmpglaaDoorNumF
namespace Go.Proofs.YtcmpjklkdmpglaaDoor
open Go.RowKit
set_option maxRecDepth 10000

def hostF (h : Hst) : Bytes := if h.kind = 2 ∨ h.kind = 5 then h.name else if h.kind = 3 then fourF h.four.toNat else if h.kind = 4 then [91] ++ sixF h.six ++ [93] else []
theorem hostF_len (h : Hst) (ok : HstOk h) (n : Nat) (hn : h.name.length ≤ n) : (hostF h).length ≤ n + 74 := by
  have h1 := sixF_len h.six ok.s
  have h2 := fourF_len h.four.toNat (by have := ok.f; omega)
  unfold hostF
  split
  · omega
  · split
    · omega
    · split
      · simp only [List.length_append, List.length_cons, List.length_nil]; omega
      · simp
theorem HstAt.six_at {cs : Array Value} {h : Hst} (ha : HstAt cs h) : Six (cs.toList.drop 3).toArray h.six := by
  refine ⟨?_, ha.ok.l, fun k hk => ?_, ha.ok.s⟩
  · simp [ha.sz]
  · rw [List.getElem?_toArray, List.getElem?_drop, Array.getElem?_toList]
    exact ha.six k hk
set_option maxHeartbeats 8000000 in
theorem hwrite_any (h : Hst) (cs : Array Value) (w : World) (ha : HstAt cs h) (hnl : h.name.length ≤ 100000) (hE : NE w) :
    Calls Tryd.prog 26 #[.agg cs] w fun e w' => e = .returned (S (hostF h)) ∧ Below w.heap.size w w' := by
  have h0 := ha.kind
  have h1 := ha.name
  have h2 := ha.four
  have hf := ha.ok.f
  have hs := ha.six_at
  have hsix := fun W (hW : Below w.heap.size w W) => swrite_any h.six _ W hs (hE.below hW)
  have hfour := fun W (hW : Below w.heap.size w W) => fwrite_any h.four.toNat (by omega) W (hE.below hW)
  have hr : hostF h = if h.kind = 2 ∨ h.kind = 5 then h.name else if h.kind = 3 then fourF h.four.toNat else if h.kind = 4 then [91] ++ sixF h.six ++ [93] else [] := rfl
  have hsl := sixF_len h.six ha.ok.s
  have hc6 : ∀ i, cs[3 + i]? = (cs.toList.drop 3)[i]? := fun i => by rw [List.getElem?_drop, Array.getElem?_toList]
  have h8 : (cs.toList.drop 3).length = 8 := by rw [List.length_drop, Array.length_toList, ha.sz]
  obtain ⟨R, hR⟩ : ∃ R, R = hostF h := ⟨_, rfl⟩
  rw [← hR] at hr ⊢
  clear ha hR hs
  generalize h.kind = K at h0 hr
  generalize h.name = nm at h1 hr hnl
  obtain ⟨q, hq⟩ : ∃ q : Nat, h.four = q := ⟨h.four.toNat, by omega⟩
  rw [hq] at h2 hf hfour hr
  simp only [Int.toNat_natCast] at hfour hr
  generalize fourF q = F at hfour hr
  generalize sixF h.six = X at hsix hr hsl
  clear hq
  generalize cs.toList.drop 3 = c6 at hc6 h8 hsix
  have HSIX := Lib.hid hsix; clear hsix
  have HFOUR := Lib.hid hfour; clear hfour
  have HC6 := Lib.hid hc6; clear hc6
  have H8 := Lib.hid h8; clear h8
  by_cases k2 : K = 2 ∨ K = 5
  · rw [if_pos k2] at hr
    subst hr
    rcases k2 with rfl | rfl
    all_goals
      go_enter Tryd.func26, Tryd.ntmps26
      go_wp2_with (first | (refine boxed rfl _ _ rfl cs rfl ?_; intro bx w1 hb1 hb2 hb3 hb4 hb5; have c0 := (hb4 0).trans h0; have c1 := (hb4 1).trans h1; have HB := Lib.hid hb5; clear hb1 hb2 hb3 hb4 hb5) | fail)
      go_ret
      exact ⟨rfl, HB.out⟩
  rw [if_neg k2] at hr
  have n2 : ¬ K = 2 := fun h => k2 (.inl h)
  have n5 : ¬ K = 5 := fun h => k2 (.inr h)
  clear k2
  by_cases k3 : K = 3
  · rw [if_pos k3] at hr
    subst hr; subst k3
    go_enter Tryd.func26, Tryd.ntmps26
    go_wp2_with (first
      | (refine boxed rfl _ _ rfl cs rfl ?_; intro bx w1 hb1 hb2 hb3 hb4 hb5; have c0 := (hb4 0).trans h0; have c2 := (hb4 2).trans h2; have HB := Lib.hid hb5; clear hb1 hb2 hb3 hb4 hb5)
      | (go_at_call 37; refine (HFOUR.out _ HB.out).mono ?_; rintro e w2 ⟨rfl, hb2⟩; have HB2 := Lib.hid (HB.out.trans (hb2.mono HB.out.size)); clear hb2)
      | fail)
    go_ret
    exact ⟨rfl, HB2.out⟩
  rw [if_neg k3] at hr
  by_cases k4 : K = 4
  · rw [if_pos k4] at hr
    subst k4
    have HR := Lib.hid hr; clear hr n2 n5 k3
    go_enter Tryd.func26, Tryd.ntmps26
    go_wp2_with (first
      | (refine boxed rfl _ _ rfl cs rfl ?_; intro bx w1 hb1 hb2 hb3 hb4 hb5; have c0 := (hb4 0).trans h0; have HC := Lib.hid hb4; have HB := Lib.hid hb5; clear hb1 hb2 hb3 hb4 hb5)
      | (refine wpList_load_mid rfl 27 _ rfl bx 3 rfl c6 _ (fun j v hv => by rw [HC.out (3 + j), HC6.out j]; exact hv) Tryd.underlying27 rfl (by rw [H8.out]; kernel_rfl) ?_)
      | (go_at_call 38; refine (HSIX.out _ HB.out).mono ?_; rintro e w2 ⟨rfl, hb2⟩; have HB2 := Lib.hid (HB.out.trans (hb2.mono HB.out.size)); clear hb2)
      | fail)
    go_ret
    refine ⟨ret1_S ?_, HB2.out⟩
    rw [HR.out]
    simp [ls_app, ls_mk]
  rw [if_neg k4] at hr
  subst hr
  go_enter Tryd.func26, Tryd.ntmps26
  go_wp2_with (first
    | (refine boxed rfl _ _ rfl cs rfl ?_; intro bx w1 hb1 hb2 hb3 hb4 hb5; have c0 := (hb4 0).trans h0; have HB := Lib.hid hb5; clear hb1 hb2 hb3 hb4 hb5)
    | fail)
  go_ret
  exact ⟨rfl, HB.out⟩
set_option maxHeartbeats 8000000 in
theorem rhwrite_any (h : Hst) (cs : Array Value) (w : World) (ha : HstAt cs h) (hnl : h.name.length ≤ 100000) :
    Calls Tryd.prog 40 #[.agg cs] w fun e w' => e = .returned (S (hostF h)) ∧ Below w.heap.size w w' := by
  have h0 := ha.kind
  have h1 := ha.name
  have h2 := ha.four
  have hf := ha.ok.f
  have hs := ha.six_at
  have hsix := fun W (hW : Below w.heap.size w W) => rswrite_any h.six _ W hs
  have hfour := fun W (hW : Below w.heap.size w W) => rfwrite_any h.four.toNat (by omega) W
  have hr : hostF h = if h.kind = 2 ∨ h.kind = 5 then h.name else if h.kind = 3 then fourF h.four.toNat else if h.kind = 4 then [91] ++ sixF h.six ++ [93] else [] := rfl
  have hsl := sixF_len h.six ha.ok.s
  have hc6 : ∀ i, cs[3 + i]? = (cs.toList.drop 3)[i]? := fun i => by rw [List.getElem?_drop, Array.getElem?_toList]
  have h8 : (cs.toList.drop 3).length = 8 := by rw [List.length_drop, Array.length_toList, ha.sz]
  obtain ⟨R, hR⟩ : ∃ R, R = hostF h := ⟨_, rfl⟩
  rw [← hR] at hr ⊢
  clear ha hR hs
  generalize h.kind = K at h0 hr
  generalize h.name = nm at h1 hr hnl
  obtain ⟨q, hq⟩ : ∃ q : Nat, h.four = q := ⟨h.four.toNat, by omega⟩
  rw [hq] at h2 hf hfour hr
  simp only [Int.toNat_natCast] at hfour hr
  generalize fourF q = F at hfour hr
  generalize sixF h.six = X at hsix hr hsl
  clear hq
  generalize cs.toList.drop 3 = c6 at hc6 h8 hsix
  have HSIX := Lib.hid hsix; clear hsix
  have HFOUR := Lib.hid hfour; clear hfour
  have HC6 := Lib.hid hc6; clear hc6
  have H8 := Lib.hid h8; clear h8
  by_cases k2 : K = 2 ∨ K = 5
  · rw [if_pos k2] at hr
    subst hr
    rcases k2 with rfl | rfl
    all_goals
      go_enter Tryd.func40, Tryd.ntmps40
      go_wp2_with (first | (refine boxed rfl _ _ rfl cs rfl ?_; intro bx w1 hb1 hb2 hb3 hb4 hb5; have c0 := (hb4 0).trans h0; have c1 := (hb4 1).trans h1; have HB := Lib.hid hb5; clear hb1 hb2 hb3 hb4 hb5) | fail)
      go_ret
      exact ⟨rfl, HB.out⟩
  rw [if_neg k2] at hr
  have n2 : ¬ K = 2 := fun h => k2 (.inl h)
  have n5 : ¬ K = 5 := fun h => k2 (.inr h)
  clear k2
  by_cases k3 : K = 3
  · rw [if_pos k3] at hr
    subst hr; subst k3
    go_enter Tryd.func40, Tryd.ntmps40
    go_wp2_with (first
      | (refine boxed rfl _ _ rfl cs rfl ?_; intro bx w1 hb1 hb2 hb3 hb4 hb5; have c0 := (hb4 0).trans h0; have c2 := (hb4 2).trans h2; have HB := Lib.hid hb5; clear hb1 hb2 hb3 hb4 hb5)
      | (go_at_call 46; refine (HFOUR.out _ HB.out).mono ?_; rintro e w2 ⟨rfl, hb2⟩; have HB2 := Lib.hid (HB.out.trans (hb2.mono HB.out.size)); clear hb2)
      | fail)
    go_ret
    exact ⟨rfl, HB2.out⟩
  rw [if_neg k3] at hr
  by_cases k4 : K = 4
  · rw [if_pos k4] at hr
    subst k4
    have HR := Lib.hid hr; clear hr n2 n5 k3
    go_enter Tryd.func40, Tryd.ntmps40
    go_wp2_with (first
      | (refine boxed rfl _ _ rfl cs rfl ?_; intro bx w1 hb1 hb2 hb3 hb4 hb5; have c0 := (hb4 0).trans h0; have HC := Lib.hid hb4; have HB := Lib.hid hb5; clear hb1 hb2 hb3 hb4 hb5)
      | (refine wpList_load_mid rfl 27 _ rfl bx 3 rfl c6 _ (fun j v hv => by rw [HC.out (3 + j), HC6.out j]; exact hv) Tryd.underlying27 rfl (by rw [H8.out]; kernel_rfl) ?_)
      | (go_at_call 47; refine (HSIX.out _ HB.out).mono ?_; rintro e w2 ⟨rfl, hb2⟩; have HB2 := Lib.hid (HB.out.trans (hb2.mono HB.out.size)); clear hb2)
      | fail)
    go_ret
    refine ⟨ret1_S ?_, HB2.out⟩
    rw [HR.out]
    simp [ls_app, ls_mk]
  rw [if_neg k4] at hr
  subst hr
  go_enter Tryd.func40, Tryd.ntmps40
  go_wp2_with (first
    | (refine boxed rfl _ _ rfl cs rfl ?_; intro bx w1 hb1 hb2 hb3 hb4 hb5; have c0 := (hb4 0).trans h0; have HB := Lib.hid hb5; clear hb1 hb2 hb3 hb4 hb5)
    | fail)
  go_ret
  exact ⟨rfl, HB.out⟩
end Go.Proofs.YtcmpjklkdmpglaaDoor
