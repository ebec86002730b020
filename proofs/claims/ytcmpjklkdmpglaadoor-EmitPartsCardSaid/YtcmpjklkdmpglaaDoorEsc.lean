/- Blanks and references, both ways: ascii.Blank, escape.escaped, escape.Escape; the reference's Blank, one, Escape. -/
import Derived.Test.YtcmpjklkdmpglaaDoorEmB
namespace Go.Proofs.YtcmpjklkdmpglaaDoor
open Go.RowKit
set_option maxRecDepth 10000

def blankF (c : Int) : Bool := decide (c = 9 ∨ c = 10 ∨ c = 12 ∨ c = 13 ∨ c = 32)
theorem blank_any (c : Int) (w : World) : Calls Tryd.prog 13 #[.int .u8 c] w fun e w' => e = .returned (.bool (blankF c)) ∧ w' = w := by
  go_enter Tryd.func13, Tryd.ntmps13
  go_wp2_with fail
  all_goals
    go_ret
    refine ⟨ret1_bool ?_, rfl⟩
    unfold blankF
    simp_all
theorem rblank_any (c : Int) (w : World) : Calls Tryd.prog 17 #[.int .u8 c] w fun e w' => e = .returned (.bool (blankF c)) ∧ w' = w := by
  go_enter Tryd.func17, Tryd.ntmps17
  go_wp2_with fail
  all_goals
    go_ret
    refine ⟨ret1_bool ?_, rfl⟩
    unfold blankF
    first
      | (simp_all; done)
      | (rw [Bool.eq_iff_iff]; simp only [Bool.or_eq_true, beq_iff_eq, decide_eq_true_eq]; omega)

/-- what is written in place of a byte; empty, if the byte is -/
def escF (c : Int) : Bytes := if c = 38 then [38, 97, 109, 112, 59] else if c = 34 then [38, 35, 51, 52, 59] else if c = 39 then [38, 35, 51, 57, 59] else if c = 60 then [38, 35, 54, 48, 59] else if c = 62 then [38, 35, 54, 50, 59] else if c = 96 then [38, 35, 57, 54, 59] else []
theorem escF_len (c : Int) : (escF c).length ≤ 5 := by unfold escF; repeat' split
                                                       all_goals simp
theorem escaped_any (c : Int) (w : World) : Calls Tryd.prog 34 #[.int .u8 c] w fun e w' => e = .returned (S (escF c)) ∧ w' = w := by
  go_enter Tryd.func34, Tryd.ntmps34
  go_wp2_with fail
  all_goals
    go_ret
    refine ⟨ret1_S ?_, rfl⟩
    unfold escF
    simp_all [ls_mk]
def oneF (x : UInt8) : Bytes := if escF (b2 x) = [] then [x] else escF (b2 x)
theorem oneF_len (x : UInt8) : (oneF x).length ≤ 5 := by
  unfold oneF
  have := escF_len (b2 x)
  split
  · simp
  · exact this
theorem rone_any (x : UInt8) (n : Int) (hn : n = b2 x) (w : World) : Calls Tryd.prog 35 #[.int .u8 n] w fun e w' => e = .returned (S (oneF x)) ∧ Below w.heap.size w w' := by
  have hr := b2_lt x
  have hx : oneF x = if escF n = [] then [x] else escF n := by rw [hn]; rfl
  have hu : UInt8.ofNat n.toNat = x := by rw [hn]; simp [b2]
  rw [← hn] at hr
  clear hn
  have HX := Lib.hid hx; clear hx
  have HU := Lib.hid hu; clear hu
  have hcv := fun W => conv1 (P := Tryd.prog) Tryd.underlying50 Tryd.underlying5 Tryd.underlying9 n hr W
  go_enter Tryd.func35, Tryd.ntmps35
  go_wp2_with fail
  all_goals
    go_ret
    first
      | refine ⟨ret1_S ?_, Below.refl _ _⟩
      | refine ⟨ret1_S ?_, (Below.refl _ _).alloc (Nat.le_refl _) _⟩
    rw [HX.out]
    unfold escF
    have := HU.out
    simp_all [ls_mk]
def escB (l : Bytes) : Bytes := l.flatMap oneF
theorem escB_take (l : Bytes) (k : Nat) (hk : k < l.length) : escB (l.take (k + 1)) = escB (l.take k) ++ oneF l[k] := by
  unfold escB
  rw [List.take_succ_eq_append_getElem hk, List.flatMap_append, List.flatMap_cons, List.flatMap_nil, List.append_nil]
theorem escB_len : ∀ l : Bytes, (escB l).length ≤ 5 * l.length
  | [] => by simp [escB]
  | x :: l => by
    have := escB_len l
    have h1 := oneF_len x
    simp only [escB, List.flatMap_cons, List.length_append, List.length_cons] at this ⊢
    omega
theorem escape_any (l : Bytes) (w : World) (hl : l.length ≤ 1000000000) : Calls Tryd.prog 18 #[.string (bs l)] w fun e w' => e = .returned (S (escB l)) ∧ Below w.heap.size w w' := by
  obtain ⟨s, hs⟩ : ∃ s, s = bs l := ⟨_, rfl⟩
  have hsz : s.size = l.length := by rw [hs, bs_size]
  have hby : ∀ k (hk : k < s.size) (hk2 : k < l.length), ((s[k]'hk).toNat : Int) = b2 l[k] := fun k hk hk2 => str_at hs hk hk2
  rw [← hs]
  clear hs
  obtain ⟨N, hN⟩ : ∃ N, N = s.size := ⟨_, rfl⟩
  have hsN : s.size = N := hN.symm
  have hNm : N ≤ 1000000000 := by omega
  have HBY := Lib.hid hby; clear hby
  have HSZ := Lib.hid hsz; clear hsz hl hN
  go_enter Tryd.func18, Tryd.ntmps18
  go_wp2_with fail
  go_loopw [8] (fun iv wr => ∃ k : Nat, k ≤ N ∧ iv = .int .i64 k ∧ Hid (Hb w (escB (l.take k)) wr)) (fun i _ => N - (intOf i).toNat)
  case atStart => exact ⟨0, by omega, by simp, Hb.fresh w⟩
  case round =>
    obtain ⟨k, hk, rfl, hbd⟩ := hrel
    by_cases hlt : k < N
    · have hku : k < s.size := by omega
      have hkl : k < l.length := by have := HSZ.out; omega
      have hx := HBY.out k hku hkl
      have htk := escB_take l k hkl
      have hle := escB_len (l.take k)
      rw [List.length_take] at hle
      have hl1 : (escB (l.take k)).length ≤ 5000000000 := by omega
      have hxr := b2_lt l[k]
      generalize l[k] = x at hx htk hxr
      have hel := escF_len (b2 x)
      have hone : oneF x = if escF (b2 x) = [] then [x] else escF (b2 x) := rfl
      have hesc := fun W => escaped_any (b2 x) W
      rw [hone] at htk
      clear hone hle hxr
      obtain ⟨E, hE⟩ : ∃ E, E = escF (b2 x) := ⟨_, rfl⟩
      rw [← hE] at htk hesc hel
      clear hE
      obtain ⟨X, hX⟩ : ∃ X : Int, X = b2 x := ⟨_, rfl⟩
      rw [← hX] at hx hesc
      have HX := Lib.hid hX; clear hX
      have HESC := Lib.hid hesc; clear hesc
      have HL1 := Lib.hid hl1; clear hl1
      have HEL := Lib.hid hel; clear hel
      by_cases he : E = []
      · subst he
        rw [if_pos rfl] at htk
        have HT := Lib.hid htk; clear htk
        have e1 : (bs []).toList.isEmpty = true := by rw [toList_bs]; rfl
        have e2 : (bs []).toList = [] := by rw [toList_bs]
        go_wp2_with (first
          | (go_at_call 34; refine (HESC.out _).mono ?_; rintro e w2 ⟨rfl, hw2⟩; subst w2)
          | (go_at_call 24; refine (Hb.wb1 x _ HX.out hbd.out (by have := HL1.out; omega)).mono ?_; rintro e w2 ⟨rfl, hbd2⟩; have HBD2 := Lib.hid hbd2; clear hbd2)
          | fail)
        go_roundw
        case rel => exact ⟨k + 1, by omega, by simp, by rw [HT.out]; exact HBD2⟩
        case measure => simp [intOf]; omega
      · rw [if_neg he] at htk
        have HT := Lib.hid htk; clear htk
        have e1 : (bs E).toList.isEmpty = false := by rw [toList_bs]; simpa using he
        have e2 : ¬ (bs E).toList = [] := by rw [toList_bs]; exact he
        clear he
        go_wp2_with (first
          | (go_at_call 34; refine (HESC.out _).mono ?_; rintro e w2 ⟨rfl, hw2⟩; subst w2)
          | (go_at_call 23; refine (Hb.ws E hbd.out (by have := HL1.out; have := HEL.out; omega)).mono ?_; rintro e w2 ⟨rfl, hbd2⟩; have HBD2 := Lib.hid hbd2; clear hbd2)
          | fail)
        go_roundw
        case rel => exact ⟨k + 1, by omega, by simp, by rw [HT.out]; exact HBD2⟩
        case measure => simp [intOf]; omega
    · obtain rfl : k = N := by omega
      go_wp2_with (first | (go_at_call 29; refine (Hb.str hbd.out).mono ?_; rintro e w2 ⟨rfl, hb2⟩; have HB2 := Lib.hid hb2; clear hb2) | fail)
      go_ret
      refine ⟨?_, HB2.out⟩
      have hz := HSZ.out
      rw [hsN] at hz
      rw [hz, List.take_length]; rfl
theorem rescape_any (l : Bytes) (w : World) (hl : l.length ≤ 1000000000) : Calls Tryd.prog 22 #[.string (bs l)] w fun e w' => e = .returned (S (escB l)) ∧ Below w.heap.size w w' := by
  obtain ⟨s, hs⟩ : ∃ s, s = bs l := ⟨_, rfl⟩
  have hsz : s.size = l.length := by rw [hs, bs_size]
  have hby : ∀ k (hk : k < s.size) (hk2 : k < l.length), ((s[k]'hk).toNat : Int) = b2 l[k] := fun k hk hk2 => str_at hs hk hk2
  rw [← hs]
  clear hs
  obtain ⟨N, hN⟩ : ∃ N, N = s.size := ⟨_, rfl⟩
  have hsN : s.size = N := hN.symm
  have hNm : N ≤ 1000000000 := by omega
  have HBY := Lib.hid hby; clear hby
  have HSZ := Lib.hid hsz; clear hsz hl hN
  go_enter Tryd.func22, Tryd.ntmps22
  go_wp2_with fail
  go_loopw [3, 4] (fun tv iv wr => ∃ k : Nat, k ≤ N ∧ iv = .int .i64 k ∧ Hid (tv = S (escB (l.take k)) ∧ Below w.heap.size w wr)) (fun _ i _ => N - (intOf i).toNat)
  case atStart => exact ⟨0, by omega, by simp, by simp [escB, bs], Below.refl _ _⟩
  case round =>
    obtain ⟨k, hk, rfl, ht⟩ := hrel
    obtain ⟨rfl, hbl⟩ := ht.out
    clear ht
    have HBL := Lib.hid hbl; clear hbl
    by_cases hlt : k < N
    · have hku : k < s.size := by omega
      have hkl : k < l.length := by have := HSZ.out; omega
      have hx := HBY.out k hku hkl
      have htk := escB_take l k hkl
      have hle := escB_len (l.take k)
      rw [List.length_take] at hle
      have hl1 : (escB (l.take k)).length ≤ 5000000000 := by omega
      generalize l[k] = x at hx htk
      have hel := oneF_len x
      obtain ⟨X, hX⟩ : ∃ X : Int, X = b2 x := ⟨_, rfl⟩
      rw [← hX] at hx
      have hone := fun W => rone_any x X hX W
      generalize escB (l.take k) = T at htk hl1 ⊢
      obtain ⟨E, hE⟩ : ∃ E, E = oneF x := ⟨_, rfl⟩
      rw [← hE] at htk hone hel
      clear hE hX hle
      have hcat := bs_app T E
      rw [← htk] at hcat
      clear htk
      have HCT := Lib.hid hcat; clear hcat
      have HONE := Lib.hid hone; clear hone
      go_wp2_with (first
        | (go_at_call 35; refine (HONE.out _).mono ?_; rintro e w2 ⟨rfl, hb2⟩; have HB2 := Lib.hid (HBL.out.trans (hb2.mono HBL.out.size)); clear hb2)
        | fail)
      go_roundw
      case rel => exact ⟨k + 1, by omega, by simp, by rw [HCT.out], HB2.out⟩
      case measure => simp [intOf]; omega
    · obtain rfl : k = N := by omega
      go_wp2_with fail
      go_ret
      refine ⟨?_, HBL.out⟩
      have hz := HSZ.out
      rw [hsN] at hz
      rw [hz, List.take_length]; rfl
end Go.Proofs.YtcmpjklkdmpglaaDoor
