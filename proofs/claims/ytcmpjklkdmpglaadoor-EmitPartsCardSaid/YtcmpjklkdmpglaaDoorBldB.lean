/- strings.Builder's WriteByte. -/
import Derived.Test.YtcmpjklkdmpglaaDoorBld
namespace Go.Proofs.YtcmpjklkdmpglaaDoor
open Go.RowKit
set_option maxRecDepth 10000

/-- WriteByte -/
theorem writeByte_any {b : Nat} {g : Option Nat} {l : Bytes} {w : World} (m : UInt8) (h : Bld b g l w) (hlen : l.length + 1 ≤ 1099511627776) :
    Calls Tryd.prog 24 #[.pointer (some ⟨b, 0, none⟩), .int .u8 (b2 m)] w fun e w' => e = .returned .nilIface ∧ RetB w b g (l ++ [m]) w' := by
  obtain ⟨i0, hi, hz0, hz1, hz2⟩ := info_parts bld_u8
  have hc := check_any h
  have HC := Lib.hid hc; clear hc
  obtain ⟨M, hM⟩ : ∃ M : Int, M = b2 m := ⟨_, rfl⟩
  rw [← hM]
  have HM := Lib.hid hM; clear hM
  go_enter Tryd.func24, Tryd.ntmps24
  go_wp2_with (go_at_call 36; refine (HC.out).mono ?_)
  rintro e w1 ⟨rfl, hB, hf1, hz⟩
  have hlt1 := hB.lt
  have hne1 := hB.g_ne
  obtain ⟨v, hb, ho, hg⟩ := hB
  -- the world in which the one byte lies
  have hwa : (w1.alloc (.cells #[.int .u8 M] 5)).heap[b]? = some (.cells #[.pointer (some ⟨b, 0, none⟩), v] 52 (0, 0)) := by
    rw [Below.heap_alloc _ _ _ hlt1]; exact hb
  have hx : Sl (w1.heap.size + 1) (w1.alloc (.cells #[.int .u8 M] 5)) (.slice (some ⟨w1.heap.size, 0, none⟩) 1 1) (Lib.byteCells [m]) := by
    refine ⟨1, by simp [Lib.byteCells], by unfold maxLen; omega, .inr ⟨w1.heap.size, 0, by omega, by simp [Lib.byteCells], fun j hj => ?_⟩⟩
    have h0 : j = 0 := by simpa [Lib.byteCells] using hj
    subst h0
    rw [HM.out]
    simp [World.cell?_alloc_mark, Lib.byteCells, b2]
  have hoa := ho.alloc (.cells #[.int .u8 M] 5)
  obtain ⟨v', w2, hr, ho2, hgr, hloc⟩ := append_sl (P := Tryd.prog) (w1.alloc (.cells #[.int .u8 M] 5)) 50 50 5 i0 Tryd.underlying50 hi hz0 hz1 hz2 v l.length l [m] hoa (by simpa using hlen) _ _ hx
  have c0 : w1.cell? ⟨b, 0, none⟩ = some (.pointer (some ⟨b, 0, none⟩)) := by rw [Lib.cell_of_heap hb]; rfl
  have c1 : w1.cell? ⟨b, 1, none⟩ = some v := by rw [Lib.cell_of_heap hb]; rfl
  have hb2 : w2.heap[b]? = some (.cells #[.pointer (some ⟨b, 0, none⟩), v] 52 (0, 0)) := by
    rw [hgr.block b (by simp; omega) (fun e => hne1 (by rw [← hg]; exact e.symm))]; exact hwa
  have d1 : w2.cell? ⟨b, 1, none⟩ = some v := by rw [Lib.cell_of_heap hb2]; rfl
  have f1 : w2.frozen? ⟨b, 1, none⟩ = false := Lib.frozen_of_heap hb2 1
  have hput := bld_put (l' := l ++ [m]) hwa hg hne1 (by rw [List.length_append]; exact ho2) hloc hgr
  obtain ⟨ao, n', cap, rfl⟩ : ∃ ao n' cap, v' = .slice ao n' cap := by
    rcases ho2.2 with ⟨hv, _⟩ | ⟨g, cap, cur, hv, _⟩
    · exact ⟨_, _, _, hv⟩
    · exact ⟨_, _, _, hv⟩
  have hal : ∀ k, k < w1.heap.size → (w1.alloc (.cells #[.int .u8 M] 5)).heap[k]? = w1.heap[k]? := fun k hk => Below.heap_alloc _ _ _ hk
  have HA := Lib.hid hal; clear hal
  have HR := Lib.hid hr; clear hr
  have HP := Lib.hid hput; clear hput
  have HF := Lib.hid hf1; clear hf1
  clear hgr hloc ho2 ho hb hb2 hwa hoa hx
  have HZ := Lib.hid hz; clear hz
  have HG := Lib.hid hg; clear hg
  go_wp2_with (at_builtin; go_must (refine append_run rfl (.tmp 11) (.tmp 13) _ _ rfl _ _ _ _ rfl rfl HR.out ?_))
  go_ret
  refine ⟨rfl, ?_⟩
  obtain ⟨g', a1, a2, a3⟩ := HP.out
  have hz := HZ.out
  refine ⟨g', a1, ?_, ?_⟩
  · rcases a2 with a2 | ⟨k, a2, a4⟩
    · exact .inl a2
    · exact .inr ⟨k, a2, by simp at a4; omega⟩
  · refine (HF.out.mono (fun k hk => Or.inl hk)).trans ⟨a3.os, a3.tape, a3.output, Nat.le_trans (by simp) a3.size, fun k hk hn => ?_⟩
    exact (a3.block k (by simp; omega) hn).trans (HA.out k hk)

end Go.Proofs.YtcmpjklkdmpglaaDoor
