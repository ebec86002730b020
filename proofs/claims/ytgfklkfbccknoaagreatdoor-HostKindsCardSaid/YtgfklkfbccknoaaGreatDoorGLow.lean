/- ascii.Lower: the bytes of a text are copied, and written over in their own place. -/
import Derived.Test.YtgfklkfbccknoaaGreatDoorGSlic
import Derived.Laws.IdiomStrings
namespace Go.Proofs.YtgfklkfbccknoaaGreatDoor
open Go.RowKit
set_option maxRecDepth 10000

/-- a byte as a small letter -/
def lowB (x : UInt8) : UInt8 := if 65 ≤ b2 x ∧ b2 x ≤ 90 then UInt8.ofNat (b2 x + 32).toNat else x
theorem b2_mk {c : Int} (h : 0 ≤ c ∧ c < 256) : b2 (UInt8.ofNat c.toNat) = c := by
  unfold b2
  rw [UInt8.toNat_ofNat']
  omega
theorem b2_range (x : UInt8) : 0 ≤ b2 x ∧ b2 x < 256 := by unfold b2; have := x.toNat_lt; omega
theorem lowB_large {x : UInt8} (h : 65 ≤ b2 x ∧ b2 x ≤ 90) : b2 (lowB x) = b2 x + 32 := by unfold lowB; rw [if_pos h, b2_mk (by omega)]
theorem lowB_other {x : UInt8} (h : ¬ (65 ≤ b2 x ∧ b2 x ≤ 90)) : lowB x = x := by unfold lowB; rw [if_neg h]

/-- a row of bytes that a conversion laid: block g bears the mark -/
def Mk (w : World) (e g : Nat) (l : Bytes) : Prop := ∃ cs : Array Value, w.heap[g]? = some (.cells cs e (cs.size, cs.size + 1)) ∧ l.length ≤ cs.size ∧ cs.toList.take l.length = Lib.byteCells l
theorem Mk.at {w : World} {e g : Nat} {l : Bytes} (h : Mk w e g l) (k : Nat) (hk : k < l.length) : w.cell? ⟨g, k, none⟩ = some (.int .u8 (b2 l[k])) := by
  obtain ⟨cs, h1, h2, h3⟩ := h
  rw [cell_of_row w g k cs e _ h1]
  have h4 := congrArg (fun x : List Value => x[k]?) h3
  simp only [List.getElem?_take, if_pos hk] at h4
  rw [← Array.getElem?_toList, h4]
  simp [Lib.byteCells, b2, hk]
theorem Mk.free {w : World} {e g : Nat} {l : Bytes} (h : Mk w e g l) (k : Nat) (hk : k < l.length) : w.frozen? ⟨g, k, none⟩ = false := by
  obtain ⟨cs, h1, h2, h3⟩ := h
  simp only [World.frozen?, h1]
  simp
  omega
theorem Mk.set {w : World} {e g : Nat} {l : Bytes} (h : Mk w e g l) (k : Nat) (y : UInt8) : Mk (w.setCell ⟨g, k, none⟩ (.int .u8 (b2 y))) e g (l.set k y) := by
  obtain ⟨cs, h1, h2, h3⟩ := h
  refine ⟨cs.setIfInBounds k (.int .u8 (b2 y)), ?_, by simpa using h2, ?_⟩
  · have hlt : g < w.heap.size := by
      by_cases hlt : g < w.heap.size
      · exact hlt
      · rw [Array.getElem?_eq_none (by omega)] at h1; cases h1
    have h1' : w.heap[g] = .cells cs e (cs.size, cs.size + 1) := by simpa [Array.getElem?_eq_getElem hlt] using h1
    show (w.heap.modify g _)[g]? = _
    rw [Array.getElem?_eq_getElem (by simpa using hlt), Array.getElem_modify_self, h1']
    simp
  · rw [Array.toList_setIfInBounds, List.length_set, List.take_set, h3]
    simp [Lib.byteCells, b2, List.map_set]
theorem Mk.new (w : World) (e : Nat) (s : ByteArray) (c : Nat) : Mk (w.drew.alloc (.cells (bytesRow s c) e ((bytesRow s c).size, (bytesRow s c).size + 1))) e w.heap.size (ls s) := by
  refine ⟨bytesRow s c, heap_alloc_new w.drew _, ?_, ?_⟩
  · rw [ls_length]; unfold bytesRow; simp
  · unfold bytesRow ls
    have e : (s.data.map (fun b => Value.int .u8 b.toNat)).toList = Lib.byteCells s.data.toList := by simp [Lib.byteCells]
    have e2 : (Lib.byteCells s.data.toList).length = s.data.toList.length := Lib.byteCells_length _
    rw [Array.toList_append, e, ← e2, List.take_left']
    rfl
theorem Mk.str {P : Program} {src dst e : TypeId} (hs : P.underlying src = some (.slice e)) (he : P.underlying e = some (.int .u8)) (hd : P.underlying dst = some .string) {w : World} {g : Nat} {l : Bytes} (h : Mk w e g l) (n c : Nat) (hn : n = l.length) :
    (convert src dst (.slice (some ⟨g, 0, none⟩) n c)).run P w = .ok (.string (bs l)) w := by
  subst hn
  refine run_convert_bytes_back (P := P) w src dst e ⟨g, 0, none⟩ c l hs he hd (fun j hj => ?_)
  rw [addr_add, Nat.zero_add, h.at j hj]
  rfl
theorem low_step {l : Bytes} {k : Nat} (h : k < l.length) : ((l.take k).map lowB ++ l.drop k).set k (lowB l[k]) = (l.take (k + 1)).map lowB ++ l.drop (k + 1) := by
  have hl : ((l.take k).map lowB).length = k := by rw [List.length_map, List.length_take]; omega
  rw [List.take_succ_eq_append_getElem h, List.map_append, List.drop_eq_getElem_cons h, List.set_append_right _ _ (by omega), hl, Nat.sub_self, List.append_assoc]
  rfl
theorem low_at {l : Bytes} {k : Nat} (h : k < l.length) (h' : k < ((l.take k).map lowB ++ l.drop k).length) : ((l.take k).map lowB ++ l.drop k)[k] = l[k] := by
  have hl : ((l.take k).map lowB).length = k := by rw [List.length_map, List.length_take]; omega
  rw [List.getElem_append_right (by omega)]
  simp [List.length_take, Nat.min_eq_left (by omega : k ≤ l.length)]
theorem low_len (l : Bytes) (k : Nat) : ((l.take k).map lowB ++ l.drop k).length = l.length := by rw [List.length_append, List.length_map, List.length_take, List.length_drop]; omega

set_option maxHeartbeats 1000000 in
theorem lower_any (l : Bytes) (w : World) (hl : l.length ≤ maxLen) : Calls Tryz.prog 20 #[.string (bs l)] w fun e w' => RetS w (l.map lowB) e w' := by
  unfold maxLen at hl
  obtain ⟨s, hs⟩ : ∃ s, s = bs l := ⟨_, rfl⟩
  have hsz : s.size = l.length := by rw [hs, bs_size]
  obtain ⟨L, hL⟩ : ∃ L, L = l.length := ⟨_, rfl⟩
  rw [← hL] at hl hsz
  rw [← hs]
  have hmk := Mk.new w 5 s (grownCap w s.size 0 5)
  rw [hs, ls_bs] at hmk
  rw [← hs] at hmk
  have kc := run_bytes_of_string (P := Tryz.prog) w 9 37 5 s Tryz.underlying9 Tryz.underlying37 Tryz.underlying5
  obtain ⟨W, hW⟩ : ∃ W, W = w.drew.alloc (.cells (bytesRow s (grownCap w s.size 0 5)) 5 ((bytesRow s (grownCap w s.size 0 5)).size, (bytesRow s (grownCap w s.size 0 5)).size + 1)) := ⟨_, rfl⟩
  have hbl : Below w.heap.size w W := by rw [hW]; exact ((Below.refl _ _).drew).alloc (Nat.le_refl _) _
  rw [← hW] at kc hmk
  clear hW
  obtain ⟨C, hC⟩ : ∃ C, C = grownCap w s.size 0 5 := ⟨_, rfl⟩
  rw [← hC] at kc
  clear hC
  rw [hsz] at kc
  obtain ⟨g, hg⟩ : ∃ g, g = w.heap.size := ⟨_, rfl⟩
  rw [← hg] at kc hmk
  have hgb : w.heap.size ≤ g := by omega
  clear hg
  have HL := Lib.hid hL; clear hL
  have HMK := Lib.hid hmk; clear hmk
  have HBL := Lib.hid hbl; clear hbl
  clear hs hsz
  go_enter Tryz.func20, Tryz.ntmps20
  go_wp2_with fail
  go_loopw [10] (fun iv wr => ∃ k : Nat, k ≤ L ∧ iv = .int .i64 k ∧ Mk wr 5 g ((l.take k).map lowB ++ l.drop k) ∧ Below w.heap.size w wr) (fun i _ => L - (intOf i).toNat)
  case atStart => exact ⟨0, by omega, by simp, by simpa using HMK.out, HBL.out⟩
  case round =>
    obtain ⟨k, hk, rfl, hmk, hbl⟩ := hrel
    by_cases hlt : k < L
    · have hx : k < l.length := by have := HL.out; omega
      have hx2 : k < ((l.take k).map lowB ++ l.drop k).length := by rw [low_len]; exact hx
      have hcell := hmk.at k hx2
      rw [low_at hx hx2] at hcell
      have hfr := hmk.free k hx2
      have hset := hmk.set k (lowB l[k])
      rw [low_step hx] at hset
      have hx8 := b2_range l[k]
      have hcs : (b2 l[k] < 65 ∧ lowB l[k] = l[k]) ∨ (65 ≤ b2 l[k] ∧ 90 < b2 l[k] ∧ lowB l[k] = l[k]) ∨ (65 ≤ b2 l[k] ∧ b2 l[k] ≤ 90 ∧ b2 (lowB l[k]) = b2 l[k] + 32) := by
        by_cases h1 : 65 ≤ b2 l[k] ∧ b2 l[k] ≤ 90
        · exact .inr (.inr ⟨h1.1, h1.2, lowB_large h1⟩)
        · have := lowB_other h1
          by_cases h2 : b2 l[k] < 65
          · exact .inl ⟨h2, this⟩
          · exact .inr (.inl ⟨by omega, by omega, this⟩)
      have hsame : lowB l[k] = l[k] → Mk wr 5 g ((l.take (k + 1)).map lowB ++ l.drop (k + 1)) := by
        intro h
        rw [← low_step hx, h]
        have : ((l.take k).map lowB ++ l.drop k).set k l[k] = (l.take k).map lowB ++ l.drop k := by
          conv => lhs; rw [← low_at hx hx2]
          exact List.set_getElem_self hx2
        rw [this]; exact hmk
      obtain ⟨x, hxx⟩ : ∃ x, x = b2 l[k] := ⟨_, rfl⟩
      obtain ⟨y, hy⟩ : ∃ y, y = lowB l[k] := ⟨_, rfl⟩
      rw [← hxx] at hcell hcs hx8
      rw [← hy] at hset hcs hsame
      obtain ⟨eq, heq⟩ : ∃ eq : Prop, eq = (y = l[k]) := ⟨_, rfl⟩
      rw [← heq] at hcs hsame
      clear hxx hy heq hx2
      have HSET := Lib.hid hset; clear hset
      have HSAME := Lib.hid hsame; clear hsame
      have HBB := Lib.hid hbl; clear hbl
      clear hmk
      rcases hcs with ⟨h1, h2⟩ | ⟨h1, h2, h3⟩ | ⟨h1, h2, h3⟩
      · have HS := Lib.hid h2; clear h2
        go_wp2_with fail
        go_roundw
        case rel => exact ⟨k + 1, by omega, by simp, HSAME.out HS.out, HBB.out⟩
        case measure => simp [intOf]; omega
      · have HS := Lib.hid h3; clear h3
        go_wp2_with fail
        go_roundw
        case rel => exact ⟨k + 1, by omega, by simp, HSAME.out HS.out, HBB.out⟩
        case measure => simp [intOf]; omega
      · have HS := Lib.hid h3; clear h3
        go_wp2_with fail
        go_roundw
        case rel => exact ⟨k + 1, by omega, by simp, by have := HSET.out; rw [HS.out, show x + 32 = x - 65 + 97 by omega] at this; exact this, HBB.out.setCell hgb _⟩
        case measure => simp [intOf]; omega
    · obtain rfl : k = L := by omega
      rw [List.take_of_length_le (by have := HL.out; omega), List.drop_of_length_le (by have := HL.out; omega), List.append_nil] at hmk
      have kc2 := hmk.str (P := Tryz.prog) Tryz.underlying37 Tryz.underlying5 Tryz.underlying9 k C (by rw [List.length_map, HL.out])
      have HBB := Lib.hid hbl; clear hbl hmk
      go_wp2_with fail
      go_ret
      exact ⟨rfl, HBB.out⟩
end Go.Proofs.YtgfklkfbccknoaaGreatDoor
