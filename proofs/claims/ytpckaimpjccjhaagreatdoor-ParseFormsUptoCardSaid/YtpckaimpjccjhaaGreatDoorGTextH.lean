/- text's Decode. -/
import Derived.Shelf.Spec.DecodeRune
import Derived.Test.YtpckaimpjccjhaaGreatDoorGTextD
import Derived.Test.YtpckaimpjccjhaaGreatDoorGBld
set_option maxHeartbeats 40000000
namespace Go.Proofs.YtpckaimpjccjhaaGreatDoor
open Go.RowKit
set_option maxRecDepth 10000
def Tabs (w : World) : Prop := Lib.Utf8Tabs 0 1 w
theorem Tabs.below {w w' : World} (h : Tabs w) (hb : Below w.heap.size w w') : Tabs w' := Utf8Tabs_below h hb
def dr (l : Bytes) : Nat × Nat := Utf8.decode (bs l) 0
theorem getD_of (l : Bytes) (k : Nat) : ((bs l).get! k).toNat = (l[k]?.getD 0).toNat := by
 have : (bs l).get! k = l[k]?.getD 0 := by
  show (l.toArray)[k]! = _
  simp [List.getElem!_toArray, List.getElem!_eq_getElem?_getD]
  rfl
 rw [this]
theorem dr_eq (l : Bytes) : dr l = Lib.decodeN l.length (l[0]?.getD 0).toNat (l[1]?.getD 0).toNat (l[2]?.getD 0).toNat (l[3]?.getD 0).toNat := by
 unfold dr
 rw [Lib.decode_at, bs_size]
 simp only [Nat.zero_add, Nat.sub_zero, getD_of]
theorem dr_len (x : UInt8) (r : Bytes) : 1 <= (dr (x :: r)).2 ∧ (dr (x :: r)).2 <= r.length + 1 := by
 rw [dr_eq]
 unfold Lib.decodeN
 repeat' split
 all_goals simp only [List.length_cons] at *
 all_goals omega
theorem decodeRune_any (x : UInt8) (r : Bytes) (b o cap : Nat) (w : World) (hT : Tabs w) (h : At w b o (Lib.byteCells (x :: r))) :
  Calls Tryz.prog 74 #[.slice (some ⟨b, o, none⟩) (x :: r).length cap] w fun e w' => e = .returned (.tuple #[.int .i32 ((dr (x :: r)).1 : Int), .int .i64 ((dr (x :: r)).2 : Int)]) ∧ Below w.heap.size w w' := by
 have hd := Any7.utf8_DecodeRune Tryz.laysDR (bs (x :: r)) b o cap w hT (fun j hj => by
  have h1 := h j (by simpa [Lib.byteCells] using hj)
  rw [h1]
  have e := getD_of (x :: r) j
  rw [e]
  have hj' : j < (x :: r).length := by simpa using hj
  rw [List.getElem?_eq_getElem hj']
  simp only [Lib.byteCells, List.getElem_map]
  rfl)
 rw [bs_size] at hd
 have e : Lib.decodeGo (bs (x :: r)) = dr (x :: r) := by
  unfold Lib.decodeGo
  rw [if_neg (by rw [bs_size]; simp)]
  rfl
 rw [e] at hd
 exact hd
def decTF : Nat -> Bytes -> Bytes
 | 0, _ => []
 | _, [] => []
 | f + 1, x :: r =>
  if (dr (x :: r)).1 = 65533 ∧ (dr (x :: r)).2 = 1 then [0xef, 0xbf, 0xbd] ++ decTF f ((x :: r).drop (begF (x :: r)))
  else (x :: r).take (dr (x :: r)).2 ++ decTF f ((x :: r).drop (dr (x :: r)).2)
def decT (l : Bytes) : Bytes := decTF l.length l
theorem decTF_cons (f : Nat) (x : UInt8) (r : Bytes) : decTF (f + 1) (x :: r) = if (dr (x :: r)).1 = 65533 ∧ (dr (x :: r)).2 = 1 then [0xef, 0xbf, 0xbd] ++ decTF f ((x :: r).drop (begF (x :: r)))
  else (x :: r).take (dr (x :: r)).2 ++ decTF f ((x :: r).drop (dr (x :: r)).2) := rfl
theorem decTF_same : ∀ (f g : Nat) (l : Bytes), l.length <= f -> l.length <= g -> decTF f l = decTF g l
 | 0, g, l, h, _ => by
  obtain rfl : l = [] := List.eq_nil_of_length_eq_zero (by omega)
  cases g <;> rfl
 | f + 1, 0, l, _, h => by
  obtain rfl : l = [] := List.eq_nil_of_length_eq_zero (by omega)
  rfl
 | f + 1, g + 1, [], _, _ => rfl
 | f + 1, g + 1, x :: r, h, h' => by
  have hn := dr_len x r
  have hb := begF_le x r
  rw [List.length_cons] at h h'
  have hd : ((x :: r).drop (dr (x :: r)).2).length <= r.length := by rw [List.length_drop, List.length_cons]; omega
  have hd2 : ((x :: r).drop (begF (x :: r))).length <= r.length := by rw [List.length_drop, List.length_cons]; omega
  rw [decTF_cons, decTF_cons, decTF_same f g _ (by omega) (by omega), decTF_same f g _ (by omega) (by omega)]
theorem decT_nil : decT [] = [] := rfl
theorem decT_bad {x : UInt8} {r : Bytes} (h : (dr (x :: r)).1 = 65533 ∧ (dr (x :: r)).2 = 1) : decT (x :: r) = [0xef, 0xbf, 0xbd] ++ decT ((x :: r).drop (begF (x :: r))) := by
 have hb := begF_le x r
 have hd2 : ((x :: r).drop (begF (x :: r))).length <= r.length := by rw [List.length_drop, List.length_cons]; omega
 unfold decT
 rw [List.length_cons, decTF_cons, if_pos h, decTF_same r.length _ _ hd2 (Nat.le_refl _)]
theorem decT_ok {x : UInt8} {r : Bytes} (h : ¬ ((dr (x :: r)).1 = 65533 ∧ (dr (x :: r)).2 = 1)) : decT (x :: r) = (x :: r).take (dr (x :: r)).2 ++ decT ((x :: r).drop (dr (x :: r)).2) := by
 have hn := dr_len x r
 have hd : ((x :: r).drop (dr (x :: r)).2).length <= r.length := by rw [List.length_drop, List.length_cons]; omega
 unfold decT
 rw [List.length_cons, decTF_cons, if_neg h, decTF_same r.length _ _ hd (Nat.le_refl _)]
theorem decT_len : ∀ (n : Nat) (l : Bytes), l.length <= n -> (decT l).length <= 3 * l.length
 | _, [], _ => by simp [decT_nil]
 | 0, x :: r, h => by simp at h
 | n + 1, x :: r, h => by
  have hn := dr_len x r
  have hb := begF_le x r
  rw [List.length_cons] at h
  have hd : ((x :: r).drop (dr (x :: r)).2).length = r.length + 1 - (dr (x :: r)).2 := by rw [List.length_drop, List.length_cons]
  have hd2 : ((x :: r).drop (begF (x :: r))).length = r.length + 1 - begF (x :: r) := by rw [List.length_drop, List.length_cons]
  by_cases hc : (dr (x :: r)).1 = 65533 ∧ (dr (x :: r)).2 = 1
  ·have := decT_len n _ (show ((x :: r).drop (begF (x :: r))).length <= n by omega)
   rw [decT_bad hc, List.length_append, List.length_cons]
   simp only [List.length_cons, List.length_nil]
   omega
  ·have := decT_len n _ (show ((x :: r).drop (dr (x :: r)).2).length <= n by omega)
   rw [decT_ok hc, List.length_append, List.length_cons, List.length_take, List.length_cons]
   omega
theorem dr1_lt (l : Bytes) : (dr l).1 < 2147483648 := by
 rw [dr_eq]
 have h0 := (l[0]?.getD 0).toNat_lt
 unfold Lib.decodeN
 repeat' split
 all_goals simp only
 all_goals omega
theorem tdecode_core (l0 : Bytes) (bb o0 c0 : Nat) (w : World) (hbb : bb < w.heap.size) (hl0 : l0.length <= 1024000000) (hlc0 : l0.length <= c0) (hcm0 : c0 <= maxLen) (hat : At w bb o0 (Lib.byteCells l0)) (hT : Tabs w) :
  Calls Tryz.prog 35 #[.slice (some ⟨bb, o0, none⟩) l0.length c0] w fun e w' => RetS w (decT l0) e w' := by
 obtain ⟨i8, hi8, hz8, hz81, hz82⟩ := info_parts u8_info
 obtain ⟨L0, hL0⟩ := ex_ (l0.length)
 rw [<- hL0] at hl0 hlc0 ⊢
 have HL0 := h_ hL0; clear hL0
 obtain ⟨T, hTT⟩ := ex_ (decT l0)
 rw [<- hTT]
 have HTT := h_ hTT; clear hTT
 have HT := h_ hT; clear hT
 have HAT := h_ hat; clear hat
 go_enter Tryz.func35, Tryz.ntmps35
 go_wp2
 go_loopw [0] (fun b wr => ∃ (l acc : Bytes) (o c : Nat) (g : Option Nat), b = .slice (some ⟨bb, o, none⟩) l.length c ∧ l.length <= c ∧ c <= maxLen ∧ At wr bb o (Lib.byteCells l) ∧
   Bld w.heap.size g acc wr ∧ (∀ k, g = some k -> w.heap.size < k) ∧ acc ++ decT l = T ∧ acc.length + 3 * l.length <= 4096000000 ∧ Below w.heap.size w wr) (fun b _ => lenV b)
 case atStart =>
  have hL := HL0.out
  exact ⟨l0, [], o0, c0, none, by rw [hL], by rw [<- hL]; exact hlc0, hcm0, (HAT.out).keep (Below.heap_alloc _ _ _ hbb), Bld.fresh w, by simp, by rw [List.nil_append]; exact HTT.out.symm, by rw [<- hL]; simp; omega, (Below.refl _ _).alloc (Nat.le_refl _) _⟩
 case round =>
  obtain ⟨l, acc, o, c, g, rfl, hlc, hcm, hA, hbd, hg, hacc, hlen, hbel⟩ := hrel
  have HA := h_ hA; clear hA
  have HD := h_ hbd; clear hbd
  have HG := h_ hg; clear hg
  have HB := h_ hbel; clear hbel
  have HC := h_ hacc; clear hacc
  cases l with
  | nil =>
   simp only [List.length_nil]
   have hstr := bstring_any w.heap.size HD.out (Nat.le_refl _) (fun k hk => by have := HG.out k hk; omega)
   have hT' : acc = T := by have := HC.out; rwa [decT_nil, List.append_nil] at this
   rw [hT'] at hstr
   clear hT'
   have HS := h_ hstr; clear hstr
   go_wp2_with (go_at_call 56; refine (HS.out).mono ?_; rintro e w1 ⟨rfl, hb1⟩; have HB1 := h_ hb1; clear hb1)
   go_ret
   exact ⟨rfl, HB.out.trans HB1.out⟩
  | cons x r =>
   have hdr := decodeRune_any x r bb o c wr ((HT.out).below HB.out) HA.out
   have hn := dr_len x r
   have hbn := begF_le x r
   have hbg := beginning_any (x :: r) c bb o
   obtain ⟨rn, sz, hD⟩ : ∃ rn sz, dr (x :: r) = (rn, sz) := ⟨_, _, rfl⟩
   have hbad := @decT_bad x r
   have hok := @decT_ok x r
   have hrl := dr1_lt (x :: r)
   rw [hD] at hdr hn hbad hok hrl
   simp only at hdr hn hbad hok hrl
   clear hD
   obtain ⟨nb, hnb⟩ := ex_ (begF (x :: r))
   rw [<- hnb] at hbad hbn hbg
   clear hnb
   obtain ⟨hn1, hn2⟩ := hn
   obtain ⟨hbn1, hbn2⟩ := hbn
   have HBAD := h_ hbad; clear hbad
   have HOK := h_ hok; clear hok
   obtain ⟨L, hL⟩ := ex_ ((x :: r).length)
   have hLr : L = r.length + 1 := hL
   rw [<- hL] at hlc hlen hdr hbg ⊢
   have HL := h_ hL; clear hL
   have HDR := h_ hdr; clear hdr
   have HBG := h_ hbg; clear hbg
   have hn2' : sz <= L := by omega
   have hbn2' : nb <= L := by omega
   have hL0 : 0 < L := by omega
   clear hLr hn2 hbn2
   have hcm' : L <= maxLen := by omega
   obtain ⟨o', ho', hcut⟩ := slice_from (P := Tryz.prog) Tryz.underlying38 hi8 hz81 bb o L c sz hn2' hlc
   obtain ⟨o'', ho'', hcut2⟩ := slice_from (P := Tryz.prog) Tryz.underlying38 hi8 hz81 bb o L c nb hbn2' hlc
   have HO' := h_ ho'; clear ho'
   have HO'' := h_ ho''; clear ho''
   have keep1 : ∀ w1, Below wr.heap.size wr w1 -> At w1 bb o (Lib.byteCells (x :: r)) := fun w1 h => (HA.out).keep (h.block bb (by have := HB.out.size; omega))
   have KEEP1 := h_ keep1; clear keep1
   by_cases hc : rn = 65533 ∧ sz = 1
   ·have hb := HBAD.out hc
    have HBD := h_ hb; clear hb
    have e1 : ((rn : Int) == 65533) = true := by simp; omega
    have e2 : ((sz : Int) == 1) = true := by simp; omega
    clear hc
    clear HOK
    have step : ∀ w1 w2, Below wr.heap.size wr w1 -> RetB w1 w.heap.size g (acc ++ [0xef, 0xbf, 0xbd]) w2 ->
      At w2 bb o (Lib.byteCells (x :: r)) ∧ Below w.heap.size w w2 ∧ ∃ g', Bld w.heap.size g' (acc ++ [0xef, 0xbf, 0xbd]) w2 ∧ ∀ k, g' = some k -> w.heap.size < k := by
     rintro w1 w2 h1 ⟨g', a1, a2, a3⟩
     have hb0 := (HD.out).lt
     have hs1 := h1.size
     have hg := HG.out
     refine ⟨(KEEP1.out w1 h1).keep (a3.block bb (by omega) ?_), (HB.out.trans (h1.mono (by omega))).trans (a3.below (by omega) ?_), g', a1, ?_⟩
     ·rintro (h | h)
      ·omega
      ·have := hg _ h; omega
     ·rintro k (h | h)
      ·omega
      ·have := hg _ h; omega
     ·intro k hk
      rcases a2 with h | ⟨k', h, h'⟩
      ·exact hg k (h ▸ hk)
      ·rw [h] at hk; injection hk with hk; omega
    have STEP := h_ step; clear step
    go_wp2_with (first | (go_at_call 74; refine (HDR.out).mono ?_; rintro e w1 ⟨rfl, hb1⟩; have HB1 := h_ hb1; clear hb1) | (go_at_call 75; go_must (refine (writeString_any [0xef, 0xbf, 0xbd] ((HD.out).below HB1.out) (by simp; omega)).mono ?_); rintro e w2 ⟨rfl, hrb⟩; have HRB := h_ hrb; clear hrb; obtain ⟨hA2, hB2, g2, hD2, hg2⟩ := STEP.out _ _ HB1.out HRB.out; have HA2 := h_ hA2; clear hA2; have HB2 := h_ hB2; clear hB2; have HD2 := h_ hD2; clear hD2; have HG2 := h_ hg2; clear hg2) | (go_at_call 76; go_must (refine (HBG.out _ hcm' hL0 HA2.out).mono ?_); rintro e w' ⟨rfl, rfl⟩))
    go_roundw
    case rel =>
     have hL := HL.out
     refine ⟨(x :: r).drop nb, acc ++ [0xef, 0xbf, 0xbd], o'', c - nb, g2, by rw [List.length_drop, <- hL], by rw [List.length_drop, <- hL]; omega, by omega, ?_, HD2.out, HG2.out, ?_, ?_, HB2.out⟩
     ·exact At.from' HA2.out (by rw [<- hL]; exact hlc) HO''.out
     ·rw [List.append_assoc, <- HBD.out]; exact HC.out
     ·rw [List.length_append, List.length_drop, <- hL]; simp only [List.length_cons, List.length_nil]; omega
    case measure => simp [lenV]; omega
   ·have hb := HOK.out hc
    have HBD := h_ hb; clear hb
    have hcut3 := slice_to (P := Tryz.prog) Tryz.underlying38 hi8 bb o L c sz (by omega)
    have step : ∀ w1 w2, Below wr.heap.size wr w1 -> RetB w1 w.heap.size g (acc ++ (x :: r).take sz) w2 ->
      At w2 bb o (Lib.byteCells (x :: r)) ∧ Below w.heap.size w w2 ∧ ∃ g', Bld w.heap.size g' (acc ++ (x :: r).take sz) w2 ∧ ∀ k, g' = some k -> w.heap.size < k := by
     rintro w1 w2 h1 ⟨g', a1, a2, a3⟩
     have hb0 := (HD.out).lt
     have hs1 := h1.size
     have hg := HG.out
     refine ⟨(KEEP1.out w1 h1).keep (a3.block bb (by omega) ?_), (HB.out.trans (h1.mono (by omega))).trans (a3.below (by omega) ?_), g', a1, ?_⟩
     ·rintro (h | h)
      ·omega
      ·have := hg _ h; omega
     ·rintro k (h | h)
      ·omega
      ·have := hg _ h; omega
     ·intro k hk
      rcases a2 with h | ⟨k', h, h'⟩
      ·exact hg k (h ▸ hk)
      ·rw [h] at hk; injection hk with hk; omega
    have STEP := h_ step; clear step
    have slx : ∀ w1, Below wr.heap.size wr w1 -> Sl w.heap.size w1 (.slice (some ⟨bb, o, none⟩) sz c) (Lib.byteCells ((x :: r).take sz)) := by
     intro w1 h1
     have hl : (Lib.byteCells ((x :: r).take sz)).length = sz := by rw [Lib.byteCells_length, List.length_take, <- HL.out]; omega
     refine ⟨c, by omega, hcm, .inr ⟨bb, o, hbb, by rw [hl], fun j hj => ?_⟩⟩
     rw [hl] at hj
     have := KEEP1.out w1 h1 j (by rw [Lib.byteCells_length, <- HL.out]; omega)
     rw [this]
     simp [Lib.byteCells]
    have SLX := h_ slx; clear slx
    have hlt3 : acc.length + ((x :: r).take sz).length <= 1099511627776 := by rw [List.length_take]; omega
    have HLT3 := h_ hlt3; clear hlt3
    clear HBAD
    have hsplit : (((rn : Int) == 65533) = true ∧ ((sz : Int) == 1) = false) ∨ ((rn : Int) == 65533) = false := by
     by_cases h1 : rn = 65533
     ·exact .inl ⟨by simp; omega, by simp; omega⟩
     ·exact .inr (by simp; omega)
    clear hc
    rcases hsplit with ⟨e1, e2⟩ | e1
    all_goals
     go_wp2_with (first | (go_at_call 74; refine (HDR.out).mono ?_; rintro e w1 ⟨rfl, hb1⟩; have HB1 := h_ hb1; clear hb1) | (go_at_call 77; go_must (refine (bwrite_any ((x :: r).take sz) _ w.heap.size (SLX.out _ HB1.out) (Nat.le_refl _) ((HD.out).below HB1.out) HLT3.out).mono ?_); rintro e w2 ⟨rfl, hrb⟩; have HRB := h_ hrb; clear hrb))
     obtain ⟨hA2, hB2, g2, hD2, hg2⟩ := STEP.out _ _ HB1.out HRB.out
     go_roundw
     case rel =>
      have hL := HL.out
      refine ⟨(x :: r).drop sz, acc ++ (x :: r).take sz, o', c - sz, g2, by rw [List.length_drop, <- hL], by rw [List.length_drop, <- hL]; omega, by omega, ?_, hD2, hg2, ?_, ?_, hB2⟩
      ·exact At.from' hA2 (by rw [<- hL]; exact hlc) HO'.out
      ·rw [List.append_assoc, <- HBD.out]; exact HC.out
      ·rw [List.length_append, List.length_drop, List.length_take, <- hL]; omega
     case measure => simp [lenV]; omega
theorem decode_any (l : Bytes) (v : Value) (w : World) (h : Sl w.heap.size w v (Lib.byteCells l)) (hl : l.length <= 1024000000) (hT : Tabs w) :
  Calls Tryz.prog 35 #[v] w fun e w' => RetS w (decT l) e w' := by
 obtain ⟨c, hc, hm, h⟩ := h
 rcases h with ⟨hn, a, rfl⟩ | ⟨b, o, hb, rfl, ha⟩
 ·obtain rfl : l = [] := by simpa [Lib.byteCells] using hn
  have hstr := fun W h => bstring_any (b := w.heap.size) (g := none) (l := []) (w := W) w.heap.size h (Nat.le_refl _) (fun k hk => by cases hk)
  have hfr := Bld.fresh w
  have HS := h_ hstr; clear hstr
  have HF := h_ hfr; clear hfr hT
  go_enter Tryz.func35, Tryz.ntmps35
  go_wp2
  refine wp_loop_rounds 1 ?_
  rw [rounds_succ]
  go_wp2_with (go_at_call 56; refine (HS.out _ HF.out).mono ?_; rintro e w1 ⟨rfl, hb1⟩; have HB1 := h_ hb1; clear hb1)
  go_ret
  exact ⟨rfl, ((Below.refl _ _).alloc (Nat.le_refl _) _).trans HB1.out⟩
 ·rw [Lib.byteCells_length] at hc ⊢
  exact tdecode_core l b o c w hb hl hc hm ha hT
end Go.Proofs.YtpckaimpjccjhaaGreatDoor
