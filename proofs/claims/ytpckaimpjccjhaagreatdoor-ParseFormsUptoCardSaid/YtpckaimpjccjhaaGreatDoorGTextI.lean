/- text's Right and Signs. -/
import Derived.Lib.OthersKept
import Derived.Test.YtpckaimpjccjhaaGreatDoorGTextH
set_option maxHeartbeats 40000000
namespace Go.Proofs.YtpckaimpjccjhaaGreatDoor
open Go.RowKit
set_option maxRecDepth 10000
def runesF : Nat -> Bytes -> List Int
 | 0, _ => []
 | _, [] => []
 | f + 1, x :: r => ((dr (x :: r)).1 : Int) :: runesF f ((x :: r).drop (dr (x :: r)).2)
def runes (l : Bytes) : List Int := runesF l.length l
theorem runesF_cons (f : Nat) (x : UInt8) (r : Bytes) : runesF (f + 1) (x :: r) = ((dr (x :: r)).1 : Int) :: runesF f ((x :: r).drop (dr (x :: r)).2) := rfl
theorem runesF_same : ∀ (f g : Nat) (l : Bytes), l.length <= f -> l.length <= g -> runesF f l = runesF g l
 | 0, g, l, h, _ => by
  obtain rfl : l = [] := List.eq_nil_of_length_eq_zero (by omega)
  cases g <;> rfl
 | f + 1, 0, l, _, h => by
  obtain rfl : l = [] := List.eq_nil_of_length_eq_zero (by omega)
  rfl
 | f + 1, g + 1, [], _, _ => rfl
 | f + 1, g + 1, x :: r, h, h' => by
  have hn := dr_len x r
  rw [List.length_cons] at h h'
  have hd : ((x :: r).drop (dr (x :: r)).2).length <= r.length := by rw [List.length_drop, List.length_cons]; omega
  rw [runesF_cons, runesF_cons, runesF_same f g _ (by omega) (by omega)]
theorem runes_nil : runes [] = [] := rfl
theorem runes_cons (x : UInt8) (r : Bytes) : runes (x :: r) = ((dr (x :: r)).1 : Int) :: runes ((x :: r).drop (dr (x :: r)).2) := by
 have hn := dr_len x r
 have hd : ((x :: r).drop (dr (x :: r)).2).length <= r.length := by rw [List.length_drop, List.length_cons]; omega
 unfold runes
 rw [List.length_cons, runesF_cons, runesF_same r.length _ _ hd (Nat.le_refl _)]
theorem decode_drop (l : Bytes) (p : Nat) : Utf8.decode (bs l) p = dr (l.drop p) := by
 rw [Lib.decode_at, dr_eq, bs_size, List.length_drop]
 simp only [getD_of, List.getElem?_drop, Nat.add_zero]
theorem signsT_any (s : ByteArray) (w : World) (hs : s.size <= 307200000) (hT : Tabs w) :
  Calls Tryz.prog 217 #[.string s] w fun e w' => RetRow w 3 (I64s (runes (decT (ls s)))) e w' := by
 obtain ⟨i0, hi0, hz0, hz1, hz2⟩ := info_parts i64_info
 have kb := run_bytes_of_string (P := Tryz.prog) w 9 38 5 s Tryz.underlying9 Tryz.underlying38 Tryz.underlying5
 obtain ⟨cp, hcp⟩ := ex_ (grownCap w s.size 0 5)
 have hcp1 : s.size <= cp := by rw [hcp]; exact grownCap_ge _ _ _ _
 have hcp2 : cp <= maxLen := by rw [hcp]; exact grownCap_le_maxLen _ _ _ _ (by unfold maxLen; omega)
 rw [<- hcp] at kb
 clear hcp
 obtain ⟨hat, hbw, hsz⟩ := bytes_new w s cp 5 ((bytesRow s cp).size, (bytesRow s cp).size + 1)
 have hsl : Sl (w.heap.size + 1) (w.alloc (.cells (bytesRow s cp) 5 ((bytesRow s cp).size, (bytesRow s cp).size + 1))).drew (.slice (some ⟨w.heap.size, 0, none⟩) s.size cp) (Lib.byteCells (ls s)) :=
  ⟨cp, by rw [Lib.byteCells_length, ls_length]; exact hcp1, hcp2, .inr ⟨_, 0, by omega, by rw [Lib.byteCells_length, ls_length], hat⟩⟩
 rw [<- hsz] at hsl
 have hd := decode_any (ls s) _ _ hsl (by rw [ls_length]; omega) (hT.below hbw)
 have hdl := decT_len _ (ls s) (Nat.le_refl _)
 rw [ls_length] at hdl
 obtain ⟨D, hD⟩ := ex_ (decT (ls s))
 rw [<- hD] at hd hdl ⊢
 clear hD
 obtain ⟨T, hTT⟩ := ex_ (runes D)
 rw [<- hTT]
 have HTT := h_ hTT; clear hTT
 have HD := h_ hd; clear hd
 have HB := h_ hbw; clear hbw
 have HZ := h_ hsz; clear hsz hsl hat hT
 go_enter Tryz.func217, Tryz.ntmps217
 go_wp2_with (go_at_call 35; refine (HD.out).mono ?_; rintro e w1 ⟨rfl, hb1⟩; have HB1 := h_ hb1; clear hb1)
 have hbw1 : Below w.heap.size w w1 := (HB.out).trans ((HB1.out).mono (by have := HZ.out; omega))
 have HBW1 := h_ hbw1; clear hbw1
 have DL : (bs D).size = D.length := bs_size D
 have HDL := h_ DL; clear DL
 go_loopw [3] (fun out wr => ∃ (p : Nat) (acc : List Int), p <= D.length ∧ wr.heap[w1.heap.size]? = some (.stringIter (bs D) p) ∧ wr.ownsRow (w1.heap.size + 1) 3 1 out acc.length (I64s acc) ∧
   acc ++ runes (D.drop p) = T ∧ acc.length <= p ∧ w1.heap.size < wr.heap.size ∧ Below w1.heap.size w1 wr) (fun _ wr => D.length - wr.iterPos w1.heap.size)
 case atStart => exact ⟨0, [], by omega, World.iter_heap _ _ _, ⟨by simp, .inl ⟨rfl, rfl⟩⟩, by simpa using HTT.out.symm, by simp, by simp [World.iter], (Below.refl _ _).alloc (Nat.le_refl _) _⟩
 case round =>
  obtain ⟨p, acc, hp, hit, hown, hacc, hal, hwz, hbel⟩ := hrel
  have HI := h_ hit; clear hit
  have HO := h_ hown; clear hown
  have HC := h_ hacc; clear hacc
  have HBL := h_ hbel; clear hbel
  by_cases hlt : p < D.length
  ·have hnx : ∀ ty, (Instr.next (.pointer (some ⟨w1.heap.size, 0, none⟩)) true ty).run Tryz.prog wr = _ := fun ty => Lib.run_next_any_at wr w1.heap.size (bs D) p ty HI.out (by rw [HDL.out]; exact hlt)
   have hdd := decode_drop D p
   obtain ⟨x, r, hx⟩ : ∃ x r, D.drop p = x :: r := by
    cases h : D.drop p with
    | nil => have := congrArg List.length h; simp at this; omega
    | cons x r => exact ⟨x, r, rfl⟩
   have hn := dr_len x r
   have hr1 := dr1_lt (x :: r)
   have hlen : r.length + 1 = D.length - p := by have := congrArg List.length hx; simp at this; omega
   have hc := HC.out
   rw [hx, runes_cons] at hc
   rw [hdd, hx] at hnx
   have hdrop : (x :: r).drop (dr (x :: r)).2 = D.drop (p + (dr (x :: r)).2) := by rw [<- hx, List.drop_drop]
   rw [hdrop] at hc
   obtain ⟨rn, sz, hD⟩ : ∃ rn sz, dr (x :: r) = (rn, sz) := ⟨_, _, rfl⟩
   rw [hD] at hnx hn hr1 hc
   simp only at hnx hn hr1 hc
   clear hD hdrop hdd
   have HC2 := h_ hc; clear hc hx
   obtain ⟨hn1, hn2⟩ := hn
   have hn3 : p + sz <= D.length := by omega
   clear hn2 hlen
   have hIA := Lib.iterAt_heap wr w1.heap.size (bs D) p (p + sz) HI.out
   have hIS := Lib.iterAt_size wr w1.heap.size (bs D) (p + sz)
   have hOA := ownsRow_iterAt HO.out (k := w1.heap.size) (Nat.lt_succ_self _) (bs D) (p + sz)
   have hBA := Lib.below_iterAt (HBL.out) (k := w1.heap.size) (Nat.le_refl _) (bs D) (p + sz)
   obtain ⟨wi, hwi⟩ := ex_ (wr.iterAt w1.heap.size (bs D) (p + sz))
   rw [<- hwi] at hIA hIS hOA hBA hnx
   have hpos : wr.iterPos w1.heap.size = p := iterPos_of HI.out
   have HWI := h_ hwi; clear hwi
   have HIA := h_ hIA; clear hIA
   have HIS := h_ hIS; clear hIS
   have HOA := h_ hOA; clear hOA
   have HBA := h_ hBA; clear hBA
   have HPOS := h_ hpos; clear hpos
   have hbase : w1.heap.size + 1 <= wi.heap.size := by have := HIS.out; omega
   go_wp2_with (at_builtin; go_must (refine push1 rfl (.tmp 13) (.tmp 16) _ rfl (w1.heap.size + 1) 3 i0 _ 8 Tryz.underlying205 hi0 hz0 hz1 hz2 rfl _ _ acc.length (I64s acc) rfl HOA.out (.int .i64 rn) rfl rfl (by omega) (by omega) hbase ?_); intro v2 w2 hown2 hw2 hb2; have HO2 := h_ hown2; clear hown2; have HB2 := h_ hb2; clear hb2)
   go_roundw
   case rel =>
    have hb2 := HB2.out
    refine ⟨p + sz, acc ++ [(rn : Int)], hn3, (hb2.block _ (by omega)).trans HIA.out, ?_, ?_, ?_, by omega, (HBA.out).trans (hb2.mono (by omega))⟩
    ·have := HO2.out
     rw [List.length_append, List.length_singleton]
     simpa [I64s] using this
    ·rw [List.append_assoc]; exact HC2.out
    ·rw [List.length_append, List.length_singleton]; omega
   case measure =>
    have e2 : w2.iterPos w1.heap.size = p + sz := iterPos_of (((HB2.out).block _ (by omega)).trans HIA.out)
    rw [e2, HPOS.out]
    omega
  ·have hnx : ∀ ty, (Instr.next (.pointer (some ⟨w1.heap.size, 0, none⟩)) true ty).run Tryz.prog wr = _ := fun ty => Lib.run_next_end_at wr w1.heap.size (bs D) p ty HI.out (by rw [HDL.out]; exact hlt)
   go_wp2
   go_ret
   have ho := HO.out
   have hc := HC.out
   rw [List.drop_eq_nil_of_le (by omega), runes_nil, List.append_nil] at hc
   rw [hc] at ho
   have hb1 := (HBW1.out).size
   exact RetRow.mk ho (by omega) ((HBW1.out).trans ((HBL.out).mono hb1))
end Go.Proofs.YtpckaimpjccjhaaGreatDoor
