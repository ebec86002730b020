/- EmB PctD: joined. -/
import Derived.Test.YtjgenpooedkfmaaDoorGEmA
import Derived.Test.YtjgenpooedkfmaaDoorGBld
import Derived.Test.YtjgenpooedkfmaaDoorGPctA
/- A builder of the call's own above a world that stands, a boxed argument; who is asked, and paths, both ways. -/
namespace Go.Proofs.YtjgenpooedkfmaaDoor
open Go.RowKit
set_option maxRecDepth 10000

/-- the builder that was laid upon the world wb holds l; what was there stands -/
structure Hb (wb : World) (l : Bytes) (w : World) : Prop where
  bld : ∃ g, Bld wb.heap.size g l w ∧ ∀ k, g = some k → wb.heap.size ≤ k
  bel : Below wb.heap.size wb w
theorem Hb.fresh (wb : World) : Hb wb [] (wb.alloc (.cells #[.pointer none, .slice none 0 0] 49)) :=
  ⟨⟨none, Bld.fresh wb, fun _ h => by cases h⟩, (Below.refl _ _).alloc (Nat.le_refl _) _⟩
theorem Hb.step {wb w w' : World} {l : Bytes} (h : Hb wb l w) (hb : Below w.heap.size w w') : Hb wb l w' := by
  obtain ⟨g, h1, h2⟩ := h.bld
  exact ⟨⟨g, h1.below hb, h2⟩, h.bel.trans (hb.mono h.bel.size)⟩
theorem Hb.of_ret {wb w w' : World} {l' : Bytes} {g : Option Nat} (hg : ∀ k, g = some k → wb.heap.size ≤ k) (hb : Below wb.heap.size wb w) (h : RetB w wb.heap.size g l' w') : Hb wb l' w' := by
  obtain ⟨g', a1, a2, a3⟩ := h
  refine ⟨⟨g', a1, fun k hk => ?_⟩, hb.trans (a3.below hb.size ?_)⟩
  · rcases a2 with h | ⟨k', h, h'⟩
    · exact hg k (h ▸ hk)
    · rw [h] at hk; injection hk with hk; have := hb.size; omega
  · rintro k (h | h)
    · omega
    · exact hg k h
theorem Hb.wb1 {wb w : World} {l : Bytes} (m : UInt8) (n : Int) (hn : n = b2 m) (h : Hb wb l w) (hlen : l.length + 1 ≤ 1099511627776) :
    Calls Tryd.prog 16 #[.pointer (some ⟨wb.heap.size, 0, none⟩), .int .u8 n] w fun e w' => e = .returned .nilIface ∧ Hb wb (l ++ [m]) w' := by
  subst hn
  obtain ⟨g, h1, h2⟩ := h.bld
  refine (writeByte_any m h1 hlen).mono ?_
  rintro e w' ⟨rfl, hr⟩
  exact ⟨rfl, Hb.of_ret h2 h.bel hr⟩
theorem Hb.str {wb w : World} {l : Bytes} (h : Hb wb l w) :
    Calls Tryd.prog 17 #[.pointer (some ⟨wb.heap.size, 0, none⟩)] w fun e w' => e = .returned (S l) ∧ Below wb.heap.size wb w' := by
  obtain ⟨g, h1, h2⟩ := h.bld
  refine (bstring_any wb.heap.size h1 (Nat.le_refl _) h2).mono ?_
  rintro e w' ⟨rfl, hr⟩
  exact ⟨rfl, h.bel.trans hr⟩

theorem strs_at {B : Nat} {w : World} {av : Option Addr} {n c : Nat} {l : List Bytes} (h : Sl B w (.slice av n c) (l.map S)) (k : Nat) (hk : k < l.length) :
    ∃ b o, av = some ⟨b, o, none⟩ ∧ b < B ∧ w.cell? ⟨b, o + k, none⟩ = some (S l[k]) := by
  obtain ⟨c', _, _, h⟩ := h
  rcases h with ⟨hn, _⟩ | ⟨b, o, hb, hv, ha⟩
  · have : l = [] := by simpa using hn
    subst this; simp at hk
  · injection hv with h1 h2 h3
    refine ⟨b, o, h1, hb, ?_⟩
    have := ha k (by simpa using hk)
    simpa using this

end Go.Proofs.YtjgenpooedkfmaaDoor

/- percent.Encode. -/
namespace Go.Proofs.YtjgenpooedkfmaaDoor
open Go.RowKit
set_option maxRecDepth 10000

def hexU (n : Nat) : UInt8 := UInt8.ofNat (if n < 10 then 48 + n else 55 + n)
theorem digitU : ∀ k : Fin 16, ((⟨#[48, 49, 50, 51, 52, 53, 54, 55, 56, 57, 65, 66, 67, 68, 69, 70]⟩ : ByteArray)[k.val]'(by have := k.isLt; show k.val < 16; omega)) = hexU k.val := by decide +kernel
def pcF (set : Int) (x : UInt8) : Bytes := if inF set (b2 x) = true then [37, hexU (x.toNat / 16), hexU (x.toNat % 16)] else [x]
def pcB (set : Int) (l : Bytes) : Bytes := l.flatMap (pcF set)
theorem pcF_len (set : Int) (x : UInt8) : (pcF set x).length ≤ 3 := by unfold pcF; split <;> simp
theorem pcB_take (set : Int) (l : Bytes) (k : Nat) (hk : k < l.length) : pcB set (l.take (k + 1)) = pcB set (l.take k) ++ pcF set l[k] := by
  unfold pcB
  rw [List.take_succ_eq_append_getElem hk, List.flatMap_append, List.flatMap_cons, List.flatMap_nil, List.append_nil]
theorem pcB_len (set : Int) : ∀ l : Bytes, (pcB set l).length ≤ 3 * l.length
  | [] => by simp [pcB]
  | x :: l => by
    have := pcB_len set l
    have h1 := pcF_len set x
    simp only [pcB, List.flatMap_cons, List.length_append, List.length_cons] at this ⊢
    omega
theorem pencode_any (set : Int) (l : Bytes) (w : World) (hl : l.length ≤ 1000000) : Calls Tryd.prog 7 #[.string (bs l), .int .i64 set] w fun e w' => e = .returned (S (pcB set l)) ∧ Below w.heap.size w w' := by
  obtain ⟨s, hs⟩ : ∃ s, s = bs l := ⟨_, rfl⟩
  have hsz : s.size = l.length := by rw [hs, bs_size]
  have hby : ∀ k (hk : k < s.size) (hk2 : k < l.length), ((s[k]'hk).toNat : Int) = b2 l[k] := fun k hk hk2 => str_at hs hk hk2
  rw [← hs]
  clear hs
  obtain ⟨N, hN⟩ : ∃ N, N = s.size := ⟨_, rfl⟩
  have hsN : s.size = N := hN.symm
  have hNm : N ≤ 1000000 := by omega
  have HBY := Lib.hid hby; clear hby
  have HSZ := Lib.hid hsz; clear hsz hl hN
  go_enter Tryd.func7, Tryd.ntmps7
  go_wp2_with fail
  go_loopw [10] (fun iv wr => ∃ k : Nat, k ≤ N ∧ iv = .int .i64 k ∧ Hid (Hb w (pcB set (l.take k)) wr)) (fun i _ => N - (intOf i).toNat)
  case atStart => exact ⟨0, by omega, by simp, Hb.fresh w⟩
  case round =>
    obtain ⟨k, hk, rfl, hbd⟩ := hrel
    by_cases hlt : k < N
    · have hku : k < s.size := by omega
      have hkl : k < l.length := by have := HSZ.out; omega
      have hx := HBY.out k hku hkl
      have htk := pcB_take set l k hkl
      have hle := pcB_len set (l.take k)
      rw [List.length_take] at hle
      have hl1 : (pcB set (l.take k)).length ≤ 3000000 := by omega
      have hxr := b2_lt l[k]
      generalize l[k] = x at hx htk hxr
      unfold pcF at htk
      have hin := fun W => pin_any set (b2 x) hxr.1 hxr.2 W
      clear hle
      obtain ⟨q, hq⟩ : ∃ q, q = x.toNat / 16 := ⟨_, rfl⟩
      obtain ⟨r, hr⟩ : ∃ r, r = x.toNat % 16 := ⟨_, rfl⟩
      have hq16 : q < 16 := by have := x.toNat_lt; omega
      have hr16 : r < 16 := by omega
      rw [← hq, ← hr] at htk
      obtain ⟨F, hF⟩ : ∃ F, F = inF set (b2 x) := ⟨_, rfl⟩
      rw [← hF] at htk hin
      clear hF
      obtain ⟨X, hX⟩ : ∃ X : Int, X = b2 x := ⟨_, rfl⟩
      rw [← hX] at hx hin hxr
      have hXn : X = (x.toNat : Int) := hX
      have ht : Int.tdiv X 16 = (q : Int) := by rw [hXn, hq]; exact (Int.ofNat_tdiv x.toNat 16).symm
      have hm : Int.tmod X 16 = (r : Int) := by rw [hXn, hr]; exact (Int.ofNat_tmod x.toNat 16).symm
      have HX := Lib.hid hX; clear hX hXn hq hr
      have HIN := Lib.hid hin; clear hin
      have HL1 := Lib.hid hl1; clear hl1
      cases F
      · rw [if_neg (by simp)] at htk
        have HT := Lib.hid htk; clear htk ht hm
        go_wp2_with (first
          | (go_at_call 15; refine (HIN.out _).mono ?_; rintro e w2 ⟨rfl, hw2⟩; subst w2)
          | (go_at_call 16; refine (Hb.wb1 x _ HX.out hbd.out (by have := HL1.out; omega)).mono ?_; rintro e w2 ⟨rfl, hbd2⟩; have HBD2 := Lib.hid hbd2; clear hbd2)
          | fail)
        go_roundw
        case rel => exact ⟨k + 1, by omega, by simp, by rw [HT.out]; exact HBD2⟩
        case measure => simp [intOf]; omega
      · rw [if_pos rfl] at htk
        have HT := Lib.hid htk; clear htk
        go_wp2_with (first
          | (go_at_call 15; refine (HIN.out _).mono ?_; rintro e w2 ⟨rfl, hw2⟩; subst w2)
          | fail)
        go_at_call 16
        refine (Hb.wb1 37 37 rfl hbd.out (by have := HL1.out; omega)).mono ?_
        rintro e w2 ⟨rfl, hbd2⟩
        have HBD2 := Lib.hid hbd2; clear hbd2
        go_wp2_with fail
        go_at_call 16
        refine (Hb.wb1 (hexU q) _ (by have e := digitU ⟨q, hq16⟩; simp only at e; rw [e]; rfl) HBD2.out (by have := HL1.out; simp only [List.length_append, List.length_cons, List.length_nil]; omega)).mono ?_
        rintro e w3 ⟨rfl, hbd3⟩
        have HBD3 := Lib.hid hbd3; clear hbd3
        go_wp2_with fail
        go_at_call 16
        refine (Hb.wb1 (hexU r) _ (by have e := digitU ⟨r, hr16⟩; simp only at e; rw [e]; rfl) HBD3.out (by have := HL1.out; simp only [List.length_append, List.length_cons, List.length_nil]; omega)).mono ?_
        rintro e w4 ⟨rfl, hbd4⟩
        have HBD4 := Lib.hid hbd4; clear hbd4
        go_wp2_with fail
        go_roundw
        case rel => exact ⟨k + 1, by omega, by simp, by rw [HT.out]; have h := HBD4.out; simp only [List.append_assoc, List.cons_append, List.nil_append] at h; exact h⟩
        case measure => simp [intOf]; omega
    · obtain rfl : k = N := by omega
      go_wp2_with (first | (go_at_call 17; refine (Hb.str hbd.out).mono ?_; rintro e w2 ⟨rfl, hb2⟩; have HB2 := Lib.hid hb2; clear hb2) | fail)
      go_ret
      refine ⟨?_, HB2.out⟩
      have hz := HSZ.out
      rw [hsN] at hz
      rw [hz, List.take_length]; rfl
end Go.Proofs.YtjgenpooedkfmaaDoor
