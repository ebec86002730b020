/- Arguments opened: addresses, items, what was read. -/
import Derived.Test.YtcmpjklkdmpglaaDoorEmF
import Derived.Test.YtcmpjklkdmpglaaDoorRowKit
import Derived.ChangeArms
namespace Go.Proofs.YtcmpjklkdmpglaaDoor
open Go.RowKit
set_option maxRecDepth 10000

section
variable {H : Type} {enc : TypeId × Value → H} {w : World}
/-- these cells read as a datum -/
def Tr (enc : TypeId × Value → H) (w : World) (t : TypeId) (cs : List Value) : Prop := ∃ fuel x, DataW.trod enc Tryd.prog w 0 (fun _ => true) true fuel t cs = some x
theorem tr_string {t : TypeId} {cs : List Value} (ht : Tryd.prog.underlying t = some .string) (h : Tr enc w t cs) : ∃ l : Bytes, cs = [S l] := by
  obtain ⟨fuel, x, h⟩ := h
  obtain ⟨s, rfl, _, _⟩ := DataW.trod_string ht h
  exact ⟨ls s, by rw [S, bs_ls]⟩
theorem tr_int {t : TypeId} {k : IntKind} {cs : List Value} (ht : Tryd.prog.underlying t = some (.int k)) (h : Tr enc w t cs) : ∃ n, cs = [.int k n] ∧ (Lit.int k n).wf = true := by
  obtain ⟨fuel, x, h⟩ := h
  obtain ⟨n, rfl, _, hw⟩ := DataW.trod_int ht h
  exact ⟨n, rfl, hw⟩
theorem tr_bool {t : TypeId} {cs : List Value} (ht : Tryd.prog.underlying t = some .bool) (h : Tr enc w t cs) : ∃ b, cs = [.bool b] := by
  obtain ⟨fuel, x, h⟩ := h
  obtain ⟨b, rfl, _⟩ := DataW.trod_bool ht h
  exact ⟨b, rfl⟩
theorem tr_field {t : TypeId} {fs : Array Field} {cs : List Value} (ht : Tryd.prog.underlying t = some (.struct fs)) (h : Tr enc w t cs) :
    cs.length = Tryd.prog.cellsOf t ∧ ∀ (i : Nat) (f : Field), fs[i]? = some f → Tr enc w f.type ((cs.drop f.offset).take (Tryd.prog.cellsOf f.type)) := by
  obtain ⟨fuel, x, h⟩ := h
  obtain ⟨xs, n, _, _, h1, h2, h3⟩ := DataW.trod_struct ht h
  refine ⟨h1, fun i f hf => ?_⟩
  have hi : i < xs.length := by rw [h2]; exact (Array.getElem?_eq_some_iff.1 hf).1
  exact ⟨n, xs[i], by rw [h3 i f hf, List.getElem?_eq_getElem hi]⟩
theorem choose_list {α : Type} {Q : Nat → α → Prop} : ∀ n, (∀ i, i < n → ∃ b, Q i b) → ∃ l : List α, l.length = n ∧ ∀ i (h : i < l.length), Q i l[i]
  | 0, _ => ⟨[], rfl, fun i h => by simp at h⟩
  | n + 1, h => by
    obtain ⟨l, h1, h2⟩ := choose_list n (fun i hi => h i (by omega))
    obtain ⟨b, hb⟩ := h n (by omega)
    refine ⟨l ++ [b], by simp [h1], fun i hi => ?_⟩
    by_cases hin : i < l.length
    · rw [List.getElem_append_left hin]; exact h2 i hin
    · have : i = n := by rw [List.length_append] at hi; simp at hi; omega
      subst this
      rw [List.getElem_append_right (by omega)]
      simpa [h1] using hb
theorem tr_slice {t e : TypeId} {cs : List Value} (ht : Tryd.prog.underlying t = some (.slice e)) (h : Tr enc w t cs) :
    cs = [.slice none 0 0] ∨ ∃ (a : Addr) (len cap : Nat), cs = [.slice (some a) len cap] ∧ len ≤ cap ∧ cap ≤ maxLen ∧
      ∀ i, i < len → ∃ ds : List Value, ds.length = Tryd.prog.cellsOf e ∧ (∀ j, j < Tryd.prog.cellsOf e → w.cell? ((a.add (i * Tryd.prog.cellsOf e)).add j) = ds[j]?) ∧ Tr enc w e ds := by
  obtain ⟨fuel, x, h⟩ := h
  rcases DataW.trod_slice ht h with ⟨h1, _⟩ | ⟨a, len, cap, elems, rest, n, _, h1, _, _, h2, h3, h4, h5, _, _⟩
  · exact .inl h1
  · refine .inr ⟨a, len, cap, h1, h2, h3, fun i hi => ?_⟩
    have := h5 i hi
    rw [List.getElem?_eq_getElem (by omega)] at this
    obtain ⟨ds, hd1, hd2⟩ := Option.bind_eq_some_iff.1 this
    obtain ⟨_, hl, hc⟩ := World.cells?_some hd1
    exact ⟨ds, hl, hc, n, _, hd2⟩
theorem cells1 : Tryd.prog.cellsOf 9 = 1 ∧ Tryd.prog.cellsOf 26 = 1 ∧ Tryd.prog.cellsOf 27 = 8 ∧ Tryd.prog.cellsOf 29 = 11 ∧ Tryd.prog.cellsOf 32 = 23 ∧ Tryd.prog.cellsOf 40 = 25 ∧ Tryd.prog.cellsOf 24 = 2 := by
  refine ⟨?_, ?_, ?_, ?_, ?_, ?_, ?_⟩ <;> kernel_rfl
theorem cellsI : Tryd.prog.cellsOf 3 = 1 ∧ Tryd.prog.cellsOf 25 = 1 ∧ Tryd.prog.cellsOf 4 = 1 ∧ Tryd.prog.cellsOf 30 = 1 ∧ Tryd.prog.cellsOf 22 = 1 := by
  refine ⟨?_, ?_, ?_, ?_, ?_⟩ <;> kernel_rfl
theorem addr_of {a : Addr} {v : Value} (h : w.cell? (a.add 0) = some v) : ∃ b o, a = ⟨b, o, none⟩ ∧ b < w.heap.size := by
  have e : a.add 0 = a := by simp [Addr.add]
  rw [e] at h
  obtain ⟨b, o, spot⟩ := a
  have hspot : spot = none := World.cell?_spot h
  subst hspot
  refine ⟨b, o, rfl, ?_⟩
  rcases Nat.lt_or_ge b w.heap.size with hlt | hge
  · exact hlt
  · simp [World.cell?, Array.getElem?_eq_none hge] at h
theorem tr_strs {cs : List Value} (h : Tr enc w 30 cs) : ∃ v l, cs = [v] ∧ Sl w.heap.size w v (List.map S l) := by
  rcases tr_slice Tryd.underlying30 h with rfl | ⟨a, len, cap, rfl, h1, h2, h3⟩
  · exact ⟨_, [], rfl, Sl.nil⟩
  · rw [cells1.1] at h3
    have h4 : ∀ i, i < len → ∃ b : Bytes, w.cell? (a.add i) = some (S b) := by
      intro i hi
      obtain ⟨ds, hl, hc, htr⟩ := h3 i hi
      obtain ⟨b, rfl⟩ := tr_string Tryd.underlying9 htr
      have := hc 0 (by omega)
      rw [Nat.mul_one] at this
      refine ⟨b, ?_⟩
      have e : (a.add i).add 0 = a.add i := by simp [Addr.add]
      rw [e] at this
      exact this
    obtain ⟨l, hl, hq⟩ := choose_list len h4
    refine ⟨_, l, rfl, cap, by rw [List.length_map]; omega, h2, ?_⟩
    by_cases h0 : len = 0
    · left
      have : l = [] := List.eq_nil_of_length_eq_zero (by omega)
      subst this
      exact ⟨rfl, some a, by rw [h0]⟩
    · right
      obtain ⟨b, o, rfl, hb⟩ := addr_of (hq 0 (by omega))
      refine ⟨b, o, hb, by rw [List.length_map, hl], fun j hj => ?_⟩
      have hj' : j < l.length := by simpa using hj
      have := hq j hj'
      rw [addr_add] at this
      rw [this]
      simp
theorem tr_u16s {cs : List Value} (h : Tr enc w 27 cs) : ∃ l : List Int, l.length = 8 ∧ cs = l.map (Value.int .u16) ∧ ∀ n ∈ l, 0 ≤ n ∧ n < 65536 := by
  obtain ⟨fuel, x, h⟩ := h
  obtain ⟨xs, m, _, _, hlen, hxs, hel⟩ := DataW.trod_array Tryd.underlying27 h
  rw [cells1.2.2.1] at hlen
  rw [cells1.2.1] at hel
  have h4 : ∀ i, i < 8 → ∃ n : Int, cs[i]? = some (.int .u16 n) ∧ (Lit.int .u16 n).wf = true := by
    intro i hi
    have := hel i hi
    rw [Nat.mul_one, List.getElem?_eq_getElem (by omega)] at this
    obtain ⟨n, hn, hw⟩ := tr_int Tryd.underlying26 (⟨m, _, this⟩ : Tr enc w 26 _)
    refine ⟨n, ?_, hw⟩
    have h5 := congrArg (fun l => l[0]?) hn
    simpa [List.getElem?_take, List.getElem?_drop] using h5
  obtain ⟨l, hl, hq⟩ := choose_list 8 h4
  refine ⟨l, hl, ?_, fun n hn => ?_⟩
  · apply List.ext_getElem?
    intro i
    by_cases hi : i < l.length
    · rw [(hq i hi).1]
      simp [hi]
    · rw [List.getElem?_eq_none (by omega), List.getElem?_eq_none (by rw [List.length_map]; omega)]
  · obtain ⟨i, hi, rfl⟩ := List.getElem_of_mem hn
    have := bounds_u16 (hq i hi).2
    omega
theorem tr_host {cs : List Value} (h : Tr enc w 29 cs) : ∃ u : Hst, cs = hstCells u ∧ HstOk u := by
  obtain ⟨hl, hf⟩ := tr_field Tryd.underlying29 h
  rw [cells1.2.2.2.1] at hl
  have f0 : Tr enc w 3 ((cs.drop 0).take (Tryd.prog.cellsOf 3)) := hf 0 _ rfl
  have f1 : Tr enc w 9 ((cs.drop 1).take (Tryd.prog.cellsOf 9)) := hf 1 _ rfl
  have f2 : Tr enc w 25 ((cs.drop 2).take (Tryd.prog.cellsOf 25)) := hf 2 _ rfl
  have f3 : Tr enc w 27 ((cs.drop 3).take (Tryd.prog.cellsOf 27)) := hf 3 _ rfl
  rw [cellsI.1] at f0
  rw [cells1.1] at f1
  rw [cellsI.2.1] at f2
  rw [cells1.2.2.1] at f3
  match cs, hl with
  | [a0, a1, a2, a3, a4, a5, a6, a7, a8, a9, a10], _ =>
    simp only [List.drop, List.take] at f0 f1 f2 f3
    obtain ⟨k, hk, hkw⟩ := tr_int Tryd.underlying3 f0
    obtain ⟨nm, hn⟩ := tr_string Tryd.underlying9 f1
    obtain ⟨fo, ho, how⟩ := tr_int Tryd.underlying25 f2
    obtain ⟨six, h6, hs, hr⟩ := tr_u16s f3
    refine ⟨⟨k, nm, fo, six⟩, ?_, ⟨?_, ?_, h6, hr⟩⟩
    · unfold hstCells
      simp only at hs ⊢
      rw [← hs]
      simp_all
    · exact bounds_i64 hkw
    · have := bounds_u32 how
      simp only
      omega
theorem tr_url {cs : List Value} (h : Tr enc w 32 cs) : ∃ pv u, cs = urlCells pv u ∧ UrlOk u ∧ Sl w.heap.size w pv (u.path.map S) := by
  obtain ⟨hl, hf⟩ := tr_field Tryd.underlying32 h
  rw [cells1.2.2.2.2.1] at hl
  have f0 : Tr enc w 9 ((cs.drop 0).take (Tryd.prog.cellsOf 9)) := hf 0 _ rfl
  have f1 : Tr enc w 9 ((cs.drop 1).take (Tryd.prog.cellsOf 9)) := hf 1 _ rfl
  have f2 : Tr enc w 9 ((cs.drop 2).take (Tryd.prog.cellsOf 9)) := hf 2 _ rfl
  have f3 : Tr enc w 29 ((cs.drop 3).take (Tryd.prog.cellsOf 29)) := hf 3 _ rfl
  have f4 : Tr enc w 4 ((cs.drop 14).take (Tryd.prog.cellsOf 4)) := hf 4 _ rfl
  have f5 : Tr enc w 3 ((cs.drop 15).take (Tryd.prog.cellsOf 3)) := hf 5 _ rfl
  have f6 : Tr enc w 4 ((cs.drop 16).take (Tryd.prog.cellsOf 4)) := hf 6 _ rfl
  have f7 : Tr enc w 9 ((cs.drop 17).take (Tryd.prog.cellsOf 9)) := hf 7 _ rfl
  have f8 : Tr enc w 30 ((cs.drop 18).take (Tryd.prog.cellsOf 30)) := hf 8 _ rfl
  have f9 : Tr enc w 4 ((cs.drop 19).take (Tryd.prog.cellsOf 4)) := hf 9 _ rfl
  have f10 : Tr enc w 9 ((cs.drop 20).take (Tryd.prog.cellsOf 9)) := hf 10 _ rfl
  have f11 : Tr enc w 4 ((cs.drop 21).take (Tryd.prog.cellsOf 4)) := hf 11 _ rfl
  have f12 : Tr enc w 9 ((cs.drop 22).take (Tryd.prog.cellsOf 9)) := hf 12 _ rfl
  rw [cells1.1] at f0
  rw [cells1.1] at f1
  rw [cells1.1] at f2
  rw [cells1.2.2.2.1] at f3
  rw [cellsI.2.2.1] at f4
  rw [cellsI.1] at f5
  rw [cellsI.2.2.1] at f6
  rw [cells1.1] at f7
  rw [cellsI.2.2.2.1] at f8
  rw [cellsI.2.2.1] at f9
  rw [cells1.1] at f10
  rw [cellsI.2.2.1] at f11
  rw [cells1.1] at f12
  match cs, hl with
  | [a0, a1, a2, a3, a4, a5, a6, a7, a8, a9, a10, a11, a12, a13, a14, a15, a16, a17, a18, a19, a20, a21, a22], _ =>
    simp only [List.drop, List.take] at f0 f1 f2 f3 f4 f5 f6 f7 f8 f9 f10 f11 f12
    obtain ⟨sch, e0⟩ := tr_string Tryd.underlying9 f0
    obtain ⟨usr, e1⟩ := tr_string Tryd.underlying9 f1
    obtain ⟨pas, e2⟩ := tr_string Tryd.underlying9 f2
    obtain ⟨ho, e3, hok⟩ := tr_host f3
    obtain ⟨hp, e4⟩ := tr_bool Tryd.underlying4 f4
    obtain ⟨po, e5, hpw⟩ := tr_int Tryd.underlying3 f5
    obtain ⟨oq, e6⟩ := tr_bool Tryd.underlying4 f6
    obtain ⟨fl, e7⟩ := tr_string Tryd.underlying9 f7
    obtain ⟨pv, pa, e8, hsl⟩ := tr_strs f8
    obtain ⟨hq, e9⟩ := tr_bool Tryd.underlying4 f9
    obtain ⟨q, e10⟩ := tr_string Tryd.underlying9 f10
    obtain ⟨hfr, e11⟩ := tr_bool Tryd.underlying4 f11
    obtain ⟨fr, e12⟩ := tr_string Tryd.underlying9 f12
    refine ⟨pv, ⟨sch, usr, pas, ho, hp, po, oq, fl, pa, hq, q, hfr, fr⟩, ?_, ⟨hok, bounds_i64 hpw⟩, hsl⟩
    simp only [List.cons.injEq, and_true] at e0 e1 e2 e4 e5 e6 e7 e8 e9 e10 e11 e12
    subst e0 e1 e2 e4 e5 e6 e7 e8 e9 e10 e11 e12
    unfold urlCells
    simp only
    rw [← e3]
    rfl
theorem tr_item {cs : List Value} (h : Tr enc w 40 cs) : ∃ pv wv i, cs = itmCells pv wv i ∧ UrlOk i.url ∧ Sl w.heap.size w pv (i.url.path.map S) ∧ Sl w.heap.size w wv (i.words.map S) := by
  obtain ⟨hl, hf⟩ := tr_field Tryd.underlying40 h
  rw [cells1.2.2.2.2.2.1] at hl
  have f0 : Tr enc w 4 ((cs.drop 0).take (Tryd.prog.cellsOf 4)) := hf 0 _ rfl
  have f1 : Tr enc w 32 ((cs.drop 1).take (Tryd.prog.cellsOf 32)) := hf 1 _ rfl
  have f2 : Tr enc w 30 ((cs.drop 24).take (Tryd.prog.cellsOf 30)) := hf 2 _ rfl
  rw [cellsI.2.2.1] at f0
  rw [cells1.2.2.2.2.1] at f1
  rw [cellsI.2.2.2.1] at f2
  match cs, hl with
  | [a0, a1, a2, a3, a4, a5, a6, a7, a8, a9, a10, a11, a12, a13, a14, a15, a16, a17, a18, a19, a20, a21, a22, a23, a24], _ =>
    simp only [List.drop, List.take] at f0 f1 f2
    obtain ⟨rt, e0⟩ := tr_bool Tryd.underlying4 f0
    obtain ⟨pv, u, e1, hok, hsl⟩ := tr_url f1
    obtain ⟨wv, ws, e2, hwl⟩ := tr_strs f2
    refine ⟨pv, wv, ⟨rt, u, ws⟩, ?_, hok, hsl, hwl⟩
    simp only [List.cons.injEq, and_true] at e0 e2
    subst e0 e2
    unfold itmCells
    simp only
    rw [← e1]
    rfl
theorem tr_items {cs : List Value} (h : Tr enc w 22 cs) : ∃ v l, cs = [v] ∧ Items w.heap.size w v l := by
  rcases tr_slice Tryd.underlying22 h with rfl | ⟨a, len, cap, rfl, h1, h2, h3⟩
  · exact ⟨_, [], rfl, 0, by simp, .inl ⟨rfl, _, rfl⟩⟩
  · rw [cells1.2.2.2.2.2.1] at h3
    have h4 : ∀ i, i < len → ∃ it : Itm, ∃ pv wv, (∀ j v, (itmCells pv wv it)[j]? = some v → w.cell? ((a.add (i * 25)).add j) = some v) ∧ UrlOk it.url ∧ Sl w.heap.size w pv (it.url.path.map S) ∧ Sl w.heap.size w wv (it.words.map S) := by
      intro i hi
      obtain ⟨ds, hl, hc, htr⟩ := h3 i hi
      obtain ⟨pv, wv, it, rfl, h5, h6, h7⟩ := tr_item htr
      refine ⟨it, pv, wv, fun j v hj => ?_, h5, h6, h7⟩
      have hjl := (List.getElem?_eq_some_iff.1 hj).1
      rw [hc j (by omega)]
      exact hj
    obtain ⟨l, hl, hq⟩ := choose_list len h4
    refine ⟨_, l, rfl, cap, by omega, ?_⟩
    by_cases h0 : len = 0
    · left
      have : l = [] := List.eq_nil_of_length_eq_zero (by omega)
      subst this
      exact ⟨rfl, some a, by rw [h0]⟩
    · right
      obtain ⟨pv, wv, hr, _, _, _⟩ := hq 0 (by omega)
      have hr0 := hr 0 _ rfl
      rw [Nat.zero_mul] at hr0
      have e : (a.add 0).add 0 = a.add 0 := by simp [Addr.add]
      rw [e] at hr0
      obtain ⟨b, o, rfl, hb⟩ := addr_of hr0
      refine ⟨b, o, hb, by rw [hl], fun k hk => ?_⟩
      obtain ⟨pv, wv, hr, h5, h6, h7⟩ := hq k hk
      refine ⟨pv, wv, fun j v hj => ?_, h5, h6, h7⟩
      have := hr j v hj
      rw [addr_add, addr_add] at this
      exact this
theorem tr_read {cs : List Value} (h : Tr enc w 24 cs) : ∃ v l d, cs = [v, S d] ∧ Items w.heap.size w v l := by
  obtain ⟨hl, hf⟩ := tr_field Tryd.underlying24 h
  rw [cells1.2.2.2.2.2.2] at hl
  have f0 : Tr enc w 22 ((cs.drop 0).take (Tryd.prog.cellsOf 22)) := hf 0 _ rfl
  have f1 : Tr enc w 9 ((cs.drop 1).take (Tryd.prog.cellsOf 9)) := hf 1 _ rfl
  rw [cellsI.2.2.2.2] at f0
  rw [cells1.1] at f1
  match cs, hl with
  | [a0, a1], _ =>
    simp only [List.drop, List.take] at f0 f1
    obtain ⟨v, l, e0, hi⟩ := tr_items f0
    obtain ⟨d, e1⟩ := tr_string Tryd.underlying9 f1
    exact ⟨v, l, d, by simp_all, hi⟩
end
end Go.Proofs.YtcmpjklkdmpglaaDoor
