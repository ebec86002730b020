/- Arguments opened: strings, numbers, structs, hosts. -/
import Derived.Test.YtgfklkfbccknoaaGreatDoorGEmA
import Derived.Test.YtgfklkfbccknoaaGreatDoorGRowKit
import Derived.ChangeArms
namespace Go.Proofs.YtgfklkfbccknoaaGreatDoor
open Go.RowKit
set_option maxRecDepth 10000

theorem cHs : Tryz.prog.cellsOf 9 = 1 := by kernel_rfl
theorem cH16 : Tryz.prog.cellsOf 23 = 1 := by kernel_rfl
theorem cH8 : Tryz.prog.cellsOf 24 = 8 := by kernel_rfl
theorem cHh : Tryz.prog.cellsOf 26 = 11 := by kernel_rfl
theorem cHi : Tryz.prog.cellsOf 3 = 1 := by kernel_rfl
theorem cHu : Tryz.prog.cellsOf 22 = 1 := by kernel_rfl
section
variable {H : Type} {enc : TypeId × Value → H} {w : World}
/-- these cells read as a datum -/
def Tr (enc : TypeId × Value → H) (w : World) (t : TypeId) (cs : List Value) : Prop := ∃ fuel x, DataW.trod enc Tryz.prog w 0 (fun _ => true) true fuel t cs = some x
theorem tr_string {t : TypeId} {cs : List Value} (ht : Tryz.prog.underlying t = some .string) (h : Tr enc w t cs) : ∃ l : Bytes, cs = [S l] := by
  obtain ⟨fuel, x, h⟩ := h
  obtain ⟨s, rfl, _, _⟩ := DataW.trod_string ht h
  exact ⟨ls s, by rw [S, bs_ls]⟩
theorem tr_int {t : TypeId} {k : IntKind} {cs : List Value} (ht : Tryz.prog.underlying t = some (.int k)) (h : Tr enc w t cs) : ∃ n, cs = [.int k n] ∧ (Lit.int k n).wf = true := by
  obtain ⟨fuel, x, h⟩ := h
  obtain ⟨n, rfl, _, hw⟩ := DataW.trod_int ht h
  exact ⟨n, rfl, hw⟩
theorem tr_bool {t : TypeId} {cs : List Value} (ht : Tryz.prog.underlying t = some .bool) (h : Tr enc w t cs) : ∃ b, cs = [.bool b] := by
  obtain ⟨fuel, x, h⟩ := h
  obtain ⟨b, rfl, _⟩ := DataW.trod_bool ht h
  exact ⟨b, rfl⟩
theorem tr_field {t : TypeId} {fs : Array Field} {cs : List Value} (ht : Tryz.prog.underlying t = some (.struct fs)) (h : Tr enc w t cs) :
    cs.length = Tryz.prog.cellsOf t ∧ ∀ (i : Nat) (f : Field), fs[i]? = some f → Tr enc w f.type ((cs.drop f.offset).take (Tryz.prog.cellsOf f.type)) := by
  obtain ⟨fuel, x, h⟩ := h
  obtain ⟨xs, n, _, _, h1, h2, h3⟩ := DataW.trod_struct ht h
  refine ⟨h1, fun i f hf => ?_⟩
  have hi : i < xs.length := by rw [h2]; exact (Array.getElem?_eq_some_iff.1 hf).1
  exact ⟨n, xs[i], by rw [h3 i f hf, List.getElem?_eq_getElem hi]⟩
theorem choose_list {α : Type} {Q : Nat → α → Prop} : ∀ n, (∀ i, i < n → ∃ b, Q i b) → ∃ l : List α, l.length = n ∧ ∀ i (h : i < l.length), Q i l[i]
  | 0, _ => ⟨[], rfl, fun i h => by simp at h⟩
  | n + 1, h => by
    obtain ⟨l, h1, h2⟩ := choose_list n (fun i hi => h i (by omega))
    obtain ⟨b, hb⟩ := h n (by omega)
    refine ⟨l ++ [b], by simp [h1], fun i hi => ?_⟩
    by_cases hin : i < l.length
    · rw [List.getElem_append_left hin]; exact h2 i hin
    · have : i = n := by rw [List.length_append] at hi; simp at hi; omega
      subst this
      rw [List.getElem_append_right (by omega)]
      simpa [h1] using hb
theorem tr_slice {t e : TypeId} {cs : List Value} (ht : Tryz.prog.underlying t = some (.slice e)) (h : Tr enc w t cs) :
    cs = [.slice none 0 0] ∨ ∃ (a : Addr) (len cap : Nat), cs = [.slice (some a) len cap] ∧ len ≤ cap ∧ cap ≤ maxLen ∧
      ∀ i, i < len → ∃ ds : List Value, ds.length = Tryz.prog.cellsOf e ∧ (∀ j, j < Tryz.prog.cellsOf e → w.cell? ((a.add (i * Tryz.prog.cellsOf e)).add j) = ds[j]?) ∧ Tr enc w e ds := by
  obtain ⟨fuel, x, h⟩ := h
  rcases DataW.trod_slice ht h with ⟨h1, _⟩ | ⟨a, len, cap, elems, rest, n, _, h1, _, _, h2, h3, h4, h5, _, _⟩
  · exact .inl h1
  · refine .inr ⟨a, len, cap, h1, h2, h3, fun i hi => ?_⟩
    have := h5 i hi
    rw [List.getElem?_eq_getElem (by omega)] at this
    obtain ⟨ds, hd1, hd2⟩ := Option.bind_eq_some_iff.1 this
    obtain ⟨_, hl, hc⟩ := World.cells?_some hd1
    exact ⟨ds, hl, hc, n, _, hd2⟩
theorem addr_of {a : Addr} {v : Value} (h : w.cell? (a.add 0) = some v) : ∃ b o, a = ⟨b, o, none⟩ ∧ b < w.heap.size := by
  have e : a.add 0 = a := by simp [Addr.add]
  rw [e] at h
  obtain ⟨b, o, spot⟩ := a
  have hspot : spot = none := World.cell?_spot h
  subst hspot
  refine ⟨b, o, rfl, ?_⟩
  rcases Nat.lt_or_ge b w.heap.size with hlt | hge
  · exact hlt
  · simp [World.cell?, Array.getElem?_eq_none hge] at h
theorem tr_u16s {cs : List Value} (h : Tr enc w 24 cs) : ∃ l : List Int, l.length = 8 ∧ cs = l.map (Value.int .u16) ∧ ∀ n ∈ l, 0 ≤ n ∧ n < 65536 := by
  obtain ⟨fuel, x, h⟩ := h
  obtain ⟨xs, m, _, _, hlen, hxs, hel⟩ := DataW.trod_array Tryz.underlying24 h
  rw [cH8] at hlen
  rw [cH16] at hel
  have h4 : ∀ i, i < 8 → ∃ n : Int, cs[i]? = some (.int .u16 n) ∧ (Lit.int .u16 n).wf = true := by
    intro i hi
    have := hel i hi
    rw [Nat.mul_one, List.getElem?_eq_getElem (by omega)] at this
    obtain ⟨n, hn, hw⟩ := tr_int Tryz.underlying23 (⟨m, _, this⟩ : Tr enc w 23 _)
    refine ⟨n, ?_, hw⟩
    have h5 := congrArg (fun l => l[0]?) hn
    simpa [List.getElem?_take, List.getElem?_drop] using h5
  obtain ⟨l, hl, hq⟩ := choose_list 8 h4
  refine ⟨l, hl, ?_, fun n hn => ?_⟩
  · apply List.ext_getElem?
    intro i
    by_cases hi : i < l.length
    · rw [(hq i hi).1]
      simp [hi]
    · rw [List.getElem?_eq_none (by omega), List.getElem?_eq_none (by rw [List.length_map]; omega)]
  · obtain ⟨i, hi, rfl⟩ := List.getElem_of_mem hn
    have := bounds_u16 (hq i hi).2
    omega
theorem tr_host {cs : List Value} (h : Tr enc w 26 cs) : ∃ u : Hst, cs = hstCells u ∧ HstOk u := by
  obtain ⟨hl, hf⟩ := tr_field Tryz.underlying26 h
  rw [cHh] at hl
  have f0 : Tr enc w 3 ((cs.drop 0).take (Tryz.prog.cellsOf 3)) := hf 0 _ rfl
  have f1 : Tr enc w 9 ((cs.drop 1).take (Tryz.prog.cellsOf 9)) := hf 1 _ rfl
  have f2 : Tr enc w 22 ((cs.drop 2).take (Tryz.prog.cellsOf 22)) := hf 2 _ rfl
  have f3 : Tr enc w 24 ((cs.drop 3).take (Tryz.prog.cellsOf 24)) := hf 3 _ rfl
  rw [cHi] at f0
  rw [cHs] at f1
  rw [cHu] at f2
  rw [cH8] at f3
  match cs, hl with
  | [a0, a1, a2, a3, a4, a5, a6, a7, a8, a9, a10], _ =>
    simp only [List.drop, List.take] at f0 f1 f2 f3
    obtain ⟨k, hk, hkw⟩ := tr_int Tryz.underlying3 f0
    obtain ⟨nm, hn⟩ := tr_string Tryz.underlying9 f1
    obtain ⟨fo, ho, how⟩ := tr_int Tryz.underlying22 f2
    obtain ⟨six, h6, hs, hr⟩ := tr_u16s f3
    refine ⟨⟨k, nm, fo, six⟩, ?_, ⟨?_, ?_, h6, hr⟩⟩
    · unfold hstCells
      simp only at hs ⊢
      rw [← hs]
      simp_all
    · exact bounds_i64 hkw
    · have := bounds_u32 how
      simp only
      omega
end
end Go.Proofs.YtgfklkfbccknoaaGreatDoor
