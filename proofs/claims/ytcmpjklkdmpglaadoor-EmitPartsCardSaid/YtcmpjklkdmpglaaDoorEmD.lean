/- What fits in a list; times with addresses; which addresses are few. -/
import Derived.Test.YtcmpjklkdmpglaaDoorSerR
import Derived.Test.YtcmpjklkdmpglaaDoorEsc
namespace Go.Proofs.YtcmpjklkdmpglaaDoor
open Go.RowKit
set_option maxRecDepth 10000

def rfF (d : Bytes) (has : Bool) (u : Bytes) : Bytes := if has then d ++ [59, 32, 117, 114, 108, 61] ++ u else d
theorem rfw_any (d u : Bytes) (has : Bool) (w : World) (hd : d.length ≤ 1000000) (hu : u.length ≤ 10000000) :
    Calls Tryd.prog 20 #[.agg #[S d, .bool has, S u]] w fun e w' => e = .returned (S (rfF d has u)) ∧ Below w.heap.size w w' := by
  cases has
  all_goals
    go_enter Tryd.func20, Tryd.ntmps20
    go_wp2_with fail
    go_ret
    refine ⟨ret1_S ?_, (Below.refl _ _).alloc (Nat.le_refl _) _⟩
    simp [rfF, ls_app, ls_mk]
theorem rrfw_any (d u : Bytes) (has : Bool) (w : World) (hd : d.length ≤ 1000000) (hu : u.length ≤ 10000000) :
    Calls Tryd.prog 21 #[.agg #[S d, .bool has, S u]] w fun e w' => e = .returned (S (rfF d has u)) ∧ Below w.heap.size w w' := by
  cases has
  all_goals
    go_enter Tryd.func21, Tryd.ntmps21
    go_wp2_with fail
    go_ret
    refine ⟨ret1_S ?_, (Below.refl _ _).alloc (Nat.le_refl _) _⟩
    simp [rfF, ls_app, ls_mk]

/-- may an address stand in a list -/
def fitsF (l : Bytes) : Bool := (l.all fun x => !blankF (b2 x)) && !l.isEmpty && !(Lib.hasPrefix l [44]) && !(Lib.hasSuffix l [44])
theorem fits_blank {l : Bytes} {k : Nat} (hk : k < l.length) (h : blankF (b2 l[k]) = true) : fitsF l = false := by
  have : (l.all fun x => !blankF (b2 x)) = false := by
    rw [List.all_eq_false]
    exact ⟨l[k], List.getElem_mem hk, by simp [h]⟩
  unfold fitsF
  rw [this]
  rfl
theorem all_of {l : Bytes} (h : ∀ k (hk : k < l.length), blankF (b2 l[k]) = false) : (l.all fun x => !blankF (b2 x)) = true := by
  rw [List.all_eq_true]
  intro x hx
  obtain ⟨k, hk, rfl⟩ := List.getElem_of_mem hx
  simp [h k hk]

set_option maxHeartbeats 8000000 in
theorem fits_any (u : Url) (cs : Array Value) (pv : Value) (w : World) (h : UrlAt cs pv u) (hp : Sl w.heap.size w pv (u.path.map S)) (hs : UrlSm u) (hE : NE w) :
    Calls Tryd.prog 8 #[.agg cs] w fun e w' => e = .returned (.bool (fitsF (serF u true))) ∧ Below w.heap.size w w' := by
  have hser := fun W (hW : Below w.heap.size w W) => swr_any u cs pv true W h ((hp.below hW).more hW.size) hs (hE.below hW)
  have hlen := serF_len u h.ok hs true
  have hsz := h.sz
  clear h hp hs hE
  generalize serF u true = T at hser hlen ⊢
  obtain ⟨s, hs⟩ : ∃ s, s = bs T := ⟨_, rfl⟩
  have hszT : s.size = T.length := by rw [hs, bs_size]
  have hby : ∀ k (hk : k < s.size) (hk2 : k < T.length), ((s[k]'hk).toNat : Int) = b2 T[k] := fun k hk hk2 => str_at hs hk hk2
  have hpre : ∀ W, Calls Tryd.prog 14 #[.string s, .string ⟨#[44]⟩] W fun e w' => e = .returned (.bool (Lib.hasPrefix T [44])) ∧ w' = W := fun W => by
    have h := Any.strings_HasPrefix Tryd.laysHP s ⟨#[44]⟩ W
    rw [show s.data.toList = T by rw [hs]; exact ls_bs T] at h
    exact h
  have hsuf : ∀ W, Calls Tryd.prog 15 #[.string s, .string ⟨#[44]⟩] W fun e w' => e = .returned (.bool (Lib.hasSuffix T [44])) ∧ w' = W := fun W => by
    have h := Any.strings_HasSuffix Tryd.laysHS s ⟨#[44]⟩ W (by omega)
    rw [show s.data.toList = T by rw [hs]; exact ls_bs T] at h
    exact h
  obtain ⟨em, hem⟩ : ∃ em, em = T.isEmpty := ⟨_, rfl⟩
  have hemp : (s.toList.isEmpty) = em := by rw [hs, toList_bs, hem]
  have hemp2 : (s.toList = []) ↔ em = true := by rw [hs, toList_bs, hem]; simp
  obtain ⟨hp, hhp⟩ : ∃ hp, hp = Lib.hasPrefix T [44] := ⟨_, rfl⟩
  obtain ⟨hx, hhx⟩ : ∃ hx, hx = Lib.hasSuffix T [44] := ⟨_, rfl⟩
  rw [← hhp] at hpre
  rw [← hhx] at hsuf
  dsimp only [S] at hser
  rw [← hs] at hser
  clear hs
  obtain ⟨N, hN⟩ : ∃ N, N = s.size := ⟨_, rfl⟩
  have hsN : s.size = N := hN.symm
  have hNm : N ≤ 5000000 := by omega
  have HBY := Lib.hid hby; clear hby
  have HSZT := Lib.hid hszT; clear hszT hlen hN
  have HSER := Lib.hid hser; clear hser
  have HSZ := Lib.hid hsz; clear hsz
  have HEM := Lib.hid hem; clear hem
  have HHP := Lib.hid hhp; clear hhp
  have HHX := Lib.hid hhx; clear hhx
  have HE1 := Lib.hid hemp
  have HE2 := Lib.hid hemp2
  clear hemp hemp2
  have HPRE := Lib.hid hpre; clear hpre
  have HSUF := Lib.hid hsuf; clear hsuf
  go_enter Tryd.func8, Tryd.ntmps8
  go_wp2_with (first
    | (refine boxed rfl _ _ rfl cs rfl ?_; intro bx w1 hb1 hb2 hb3 hb4 hb5; have HC := Lib.hid hb4; have HB := Lib.hid hb5; have HBX := Lib.hid hb2; clear hb1 hb2 hb3 hb4 hb5)
    | (refine wpList_load_mid rfl 32 _ rfl bx 0 rfl cs.toList _ (six_load 0 (fun i => by rw [Nat.zero_add]; exact HC.out i)) Tryd.underlying32 rfl (by rw [Array.length_toList, HSZ.out]; kernel_rfl) ?_)
    | (go_at_call 12; try rw [Array.toArray_toList]; refine (HSER.out _ HB.out).mono ?_; rintro e1 w2 ⟨rfl, hb2⟩; have HB2 := Lib.hid (HB.out.trans (hb2.mono HB.out.size)); clear hb2)
    | fail)
  go_loopw [4] (fun iv wr => ∃ k : Nat, k ≤ N ∧ iv = .int .i64 k ∧ Hid (∀ j (hj : j < T.length), j < k → blankF (b2 T[j]) = false) ∧ w2 = wr) (fun i _ => N - (intOf i).toNat)
  case atStart => exact ⟨0, by omega, by simp, fun j _ h => absurd h (Nat.not_lt_zero j), rfl⟩
  case round =>
    obtain ⟨k, hk, rfl, hnb, rfl⟩ := hrel
    by_cases hlt : k < N
    · have hku : k < s.size := by omega
      have hkl : k < T.length := by have := HSZT.out; omega
      have hby := HBY.out k hku hkl
      have hbl := fun W => blank_any (b2 T[k]) W
      have hrr := b2_lt T[k]
      cases hc : blankF (b2 T[k])
      · rw [hc] at hbl
        have HNB := Lib.hid (show ∀ j (hj : j < T.length), j < k + 1 → blankF (b2 T[j]) = false from fun j hj h => by
          rcases Nat.lt_or_ge j k with h1 | h1
          · exact hnb.out j hj h1
          · obtain rfl : j = k := by omega
            exact hc)
        clear hc hnb
        generalize b2 T[k] = x at hby hbl hrr
        have HBL := Lib.hid hbl; clear hbl
        go_wp2_with (first | (go_at_call 13; refine (HBL.out _).mono ?_; rintro e3 w3 ⟨rfl, hw3⟩; subst hw3) | fail)
        go_roundw
        case rel => exact ⟨k + 1, by omega, by simp, HNB.out, by trivial⟩
        case measure => simp [intOf]; omega
      · rw [hc] at hbl
        have HF := Lib.hid (fits_blank hkl hc)
        clear hc hnb
        generalize b2 T[k] = x at hby hbl hrr
        have HBL := Lib.hid hbl; clear hbl
        go_wp2_with (first | (go_at_call 13; refine (HBL.out _).mono ?_; rintro e3 w3 ⟨rfl, hw3⟩; subst hw3) | fail)
        go_ret
        exact ⟨by rw [HF.out]; rfl, HB2.out⟩
    · obtain rfl : k = N := by omega
      have hall : (T.all fun x => !blankF (b2 x)) = true := all_of fun j hj => hnb.out j hj (by have := HSZT.out; omega)
      have hfit : fitsF T = (!em && !hp && !hx) := by
        unfold fitsF
        rw [hall, ← HEM.out, ← HHP.out, ← HHX.out]
        rfl
      have HFIT := Lib.hid hfit; clear hfit hall hnb
      have hemp := HE1.out
      have hemp2 := HE2.out
      cases em <;> cases hp <;> cases hx
      all_goals
        simp only [Bool.false_eq_true, iff_false, iff_true] at hemp2
        go_wp2_with (first
          | (go_at_call 14; refine (HPRE.out _).mono ?_; rintro e3 w3 ⟨rfl, hw3⟩; subst hw3)
          | (go_at_call 15; refine (HSUF.out _).mono ?_; rintro e4 w4 ⟨rfl, hw4⟩; subst hw4)
          | fail)
        go_ret
        exact ⟨by rw [HFIT.out]; rfl, HB2.out⟩
theorem pre1 (x : UInt8) (r : Bytes) : Lib.hasPrefix (x :: r) [44] = decide (b2 x = 44) := by
  have h3 : Lib.hasPrefix (x :: r) [44] = ((44 : UInt8) == x) := by simp [Lib.hasPrefix, List.isPrefixOf]
  rw [h3]
  by_cases h : x = 44
  · subst h; rfl
  · have h2 : ((44 : UInt8) == x) = false := by simpa using Ne.symm h
    rw [h2]
    symm
    apply decide_eq_false
    intro h1
    apply h
    apply UInt8.toNat_inj.mp
    have h4 : (x.toNat : Int) = 44 := h1
    have h5 : (44 : UInt8).toNat = 44 := rfl
    omega
theorem suf1 (x : UInt8) (r : Bytes) : Lib.hasSuffix (r ++ [x]) [44] = decide (b2 x = 44) := by
  have h := pre1 x r.reverse
  unfold Lib.hasSuffix List.isSuffixOf
  rw [List.reverse_append]
  exact h
set_option maxHeartbeats 8000000 in
theorem rfits_any (u : Url) (cs : Array Value) (pv : Value) (w : World) (h : UrlAt cs pv u) (hp : Sl w.heap.size w pv (u.path.map S)) (hs : UrlSm u) :
    Calls Tryd.prog 9 #[.agg cs] w fun e w' => e = .returned (.bool (fitsF (serF u true))) ∧ Below w.heap.size w w' := by
  have hser := fun W (hW : Below w.heap.size w W) => rser_any u cs pv true W h ((hp.below hW).more hW.size) hs
  have hlen := serF_len u h.ok hs true
  have hsz := h.sz
  clear h hp hs
  generalize serF u true = T at hser hlen ⊢
  obtain ⟨s, hs⟩ : ∃ s, s = bs T := ⟨_, rfl⟩
  have hszT : s.size = T.length := by rw [hs, bs_size]
  have hby : ∀ k (hk : k < s.size) (hk2 : k < T.length), ((s[k]'hk).toNat : Int) = b2 T[k] := fun k hk hk2 => str_at hs hk hk2
  obtain ⟨em, hem⟩ : ∃ em, em = T.isEmpty := ⟨_, rfl⟩
  have hemp : (s.toList.isEmpty) = em := by rw [hs, toList_bs, hem]
  have hemp2 : (s.toList = []) ↔ em = true := by rw [hs, toList_bs, hem]; simp
  obtain ⟨hp, hhp⟩ : ∃ hp, hp = Lib.hasPrefix T [44] := ⟨_, rfl⟩
  obtain ⟨hx, hhx⟩ : ∃ hx, hx = Lib.hasSuffix T [44] := ⟨_, rfl⟩
  dsimp only [S] at hser
  rw [← hs] at hser
  clear hs
  obtain ⟨N, hN⟩ : ∃ N, N = s.size := ⟨_, rfl⟩
  have hsN : s.size = N := hN.symm
  have hNm : N ≤ 5000000 := by omega
  have HBY := Lib.hid hby; clear hby
  have HSZT := Lib.hid hszT; clear hszT hlen hN
  have HSER := Lib.hid hser; clear hser
  have HSZ := Lib.hid hsz; clear hsz
  have HEM := Lib.hid hem; clear hem
  have HHP := Lib.hid hhp; clear hhp
  have HHX := Lib.hid hhx; clear hhx
  have HE1 := Lib.hid hemp
  have HE2 := Lib.hid hemp2
  clear hemp hemp2
  go_enter Tryd.func9, Tryd.ntmps9
  go_wp2_with (first
    | (refine boxed rfl _ _ rfl cs rfl ?_; intro bx w1 hb1 hb2 hb3 hb4 hb5; have HC := Lib.hid hb4; have HB := Lib.hid hb5; have HBX := Lib.hid hb2; clear hb1 hb2 hb3 hb4 hb5)
    | (refine wpList_load_mid rfl 32 _ rfl bx 0 rfl cs.toList _ (six_load 0 (fun i => by rw [Nat.zero_add]; exact HC.out i)) Tryd.underlying32 rfl (by rw [Array.length_toList, HSZ.out]; kernel_rfl) ?_)
    | (go_at_call 16; try rw [Array.toArray_toList]; refine (HSER.out _ HB.out).mono ?_; rintro e1 w2 ⟨rfl, hb2⟩; have HB2 := Lib.hid (HB.out.trans (hb2.mono HB.out.size)); clear hb2)
    | fail)
  go_loopw [4] (fun iv wr => ∃ k : Nat, k ≤ N ∧ iv = .int .i64 k ∧ Hid (∀ j (hj : j < T.length), j < k → blankF (b2 T[j]) = false) ∧ w2 = wr) (fun i _ => N - (intOf i).toNat)
  case atStart => exact ⟨0, by omega, by simp, fun j _ h => absurd h (Nat.not_lt_zero j), rfl⟩
  case round =>
    obtain ⟨k, hk, rfl, hnb, rfl⟩ := hrel
    by_cases hlt : k < N
    · have hku : k < s.size := by omega
      have hkl : k < T.length := by have := HSZT.out; omega
      have hby := HBY.out k hku hkl
      have hbl := fun W => rblank_any (b2 T[k]) W
      have hrr := b2_lt T[k]
      cases hc : blankF (b2 T[k])
      · rw [hc] at hbl
        have HNB := Lib.hid (show ∀ j (hj : j < T.length), j < k + 1 → blankF (b2 T[j]) = false from fun j hj h => by
          rcases Nat.lt_or_ge j k with h1 | h1
          · exact hnb.out j hj h1
          · obtain rfl : j = k := by omega
            exact hc)
        clear hc hnb
        generalize b2 T[k] = x at hby hbl hrr
        have HBL := Lib.hid hbl; clear hbl
        go_wp2_with (first | (go_at_call 17; refine (HBL.out _).mono ?_; rintro e3 w3 ⟨rfl, hw3⟩; subst hw3) | fail)
        go_roundw
        case rel => exact ⟨k + 1, by omega, by simp, HNB.out, by trivial⟩
        case measure => simp [intOf]; omega
      · rw [hc] at hbl
        have HF := Lib.hid (fits_blank hkl hc)
        clear hc hnb
        generalize b2 T[k] = x at hby hbl hrr
        have HBL := Lib.hid hbl; clear hbl
        go_wp2_with (first | (go_at_call 17; refine (HBL.out _).mono ?_; rintro e3 w3 ⟨rfl, hw3⟩; subst hw3) | fail)
        go_ret
        exact ⟨by rw [HF.out]; rfl, HB2.out⟩
    · obtain rfl : k = N := by omega
      have hall : (T.all fun x => !blankF (b2 x)) = true := all_of fun j hj => hnb.out j hj (by have := HSZT.out; omega)
      have hfit : fitsF T = (!em && !hp && !hx) := by
        unfold fitsF
        rw [hall, ← HEM.out, ← HHP.out, ← HHX.out]
        rfl
      have HFIT := Lib.hid hfit; clear hfit hall hnb
      have hemp := HE1.out
      have hemp2 := HE2.out
      cases em
      · have hTne : T ≠ [] := fun h => by have := HEM.out; rw [h] at this; cases this
        have hpos : 0 < k := by
          have := HSZT.out
          have h2 := List.length_pos_iff.mpr hTne
          omega
        have hk0 : 0 < s.size := by omega
        have hk1 : k - 1 < s.size := by omega
        have f0 := HBY.out 0 hk0 (by have := HSZT.out; omega)
        have f1 := HBY.out (k - 1) hk1 (by have := HSZT.out; omega)
        have g0 : hp = decide (b2 (T[0]'(by have := HSZT.out; omega)) = 44) := by
          rw [HHP.out]
          conv => lhs; rw [← List.cons_head_tail hTne]
          rw [pre1]
          congr 2
          rw [List.head_eq_getElem]
        have g1 : hx = decide (b2 (T[k - 1]'(by have := HSZT.out; omega)) = 44) := by
          rw [HHX.out]
          conv => lhs; rw [← List.dropLast_concat_getLast hTne]
          rw [suf1]
          have hkk : T.length - 1 = k - 1 := by have := HSZT.out; omega
          simp only [List.getLast_eq_getElem, hkk]
        generalize b2 (T[0]'(by have := HSZT.out; omega)) = a0 at f0 g0
        generalize b2 (T[k - 1]'(by have := HSZT.out; omega)) = a1 at f1 g1
        obtain ⟨q, hq⟩ : ∃ q, k = q + 1 := ⟨k - 1, by omega⟩
        subst hq
        simp only [Nat.add_sub_cancel] at f1 hk1
        have HG0 := Lib.hid g0; clear g0
        have HG1 := Lib.hid g1; clear g1
        simp only [Bool.false_eq_true, iff_false] at hemp2
        go_wp2_with fail
        all_goals
          go_ret
          refine ⟨ret1_bool ?_, HB2.out⟩
          rw [HFIT.out, HG0.out, HG1.out]
          by_cases hA0 : a0 = 44 <;> by_cases hA1 : a1 = 44 <;> simp_all
      · simp only [iff_true] at hemp2
        go_wp2_with fail
        go_ret
        exact ⟨by rw [HFIT.out]; rfl, HB2.out⟩
end Go.Proofs.YtcmpjklkdmpglaaDoor
