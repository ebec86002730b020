/- SixU SixV HstB HstC HstD HstE HplA: joined. -/
import Derived.Test.YtgfklkfbccknoaaGreatDoorGSixS
import Derived.Test.YtgfklkfbccknoaaGreatDoorGSixF
import Derived.Test.YtgfklkfbccknoaaGreatDoorGPctA
import Derived.Test.YtgfklkfbccknoaaGreatDoorGNumB
import Derived.Test.YtgfklkfbccknoaaGreatDoorGIdnI
/- The reference's Parse of layer 10: plain laws, the memory, the search of two colons. -/
namespace Go.Proofs.YtgfklkfbccknoaaGreatDoor
open Go.RowKit
set_option maxRecDepth 10000

theorem cut2_none : ∀ (l : Bytes), (∀ j (h : j + 1 < l.length), ¬ (l[j] = 58 ∧ l[j + 1] = 58)) → cut2 l = none
  | [], _ => rfl
  | [x], _ => rfl
  | x :: y :: r, h => by
    have h0 := h 0 (by simp)
    rw [cut2_two, if_neg (by simpa using h0), cut2_none (y :: r) (fun j hj => by have := h (j + 1) (by simp at hj ⊢; omega); simpa using this)]
    rfl
theorem cut2_some : ∀ (l : Bytes) (j : Nat) (h : j + 1 < l.length), l[j] = 58 → l[j + 1] = 58 → (∀ i (hi : i + 1 < l.length), i < j → ¬ (l[i] = 58 ∧ l[i + 1] = 58)) → cut2 l = some (l.take j, l.drop (j + 2))
  | [], _, h, _, _, _ => absurd h (by simp)
  | [x], _, h, _, _, _ => absurd h (by simp)
  | x :: y :: r, 0, _, h1, h2, _ => by
    rw [cut2_two, if_pos ⟨by simpa using h1, by simpa using h2⟩]; rfl
  | x :: y :: r, j + 1, h, h1, h2, hn => by
    have h0 := hn 0 (by simp) (by omega)
    rw [cut2_two, if_neg (by simpa using h0), cut2_some (y :: r) j (by simp at h ⊢; omega) (by simpa using h1) (by simpa using h2) (fun i hi hij => by have := hn (i + 1) (by simp at hi ⊢; omega) (by omega); simpa using this)]
    rfl
theorem rowF_r (nums : Bool) (s : Bytes) : rowF nums s = match rrowF nums s with | none => none | some l => if 8 < l.length then none else some l := by
  unfold rowF rrowF
  split
  · rfl
  · rfl
theorem rrow_range {nums : Bool} {s : Bytes} {l : List Int} (h : rrowF nums s = some l) : ∀ n ∈ l, 0 ≤ n ∧ n < 65536 := by
  unfold rrowF at h
  split at h
  · injection h with h; subst h; simp
  · exact rowP_range _ _ _ h
/-- the answer without two colons -/
theorem six_one {s : Bytes} (h : cut2 s = none) : sixPF s = match rrowF true s with | none => none | some l => if l.length = 8 then some l else none := by
  unfold sixPF
  rw [h]
  dsimp only
  rw [rowF_r]
  cases rrowF true s with
  | none => rfl
  | some l =>
    dsimp only
    by_cases h8 : l.length = 8
    · rw [if_neg (by omega)]
    · by_cases h9 : 8 < l.length
      · rw [if_pos h9, if_neg h8]
      · rw [if_neg h9]
/-- the answer with two colons -/
theorem six_two {s a b : Bytes} (h : cut2 s = some (a, b)) : sixPF s = match rrowF false a with | none => none | some l => match rrowF true b with | none => none | some r => if 8 ≤ l.length + r.length then none else some (l ++ List.replicate (8 - l.length - r.length) 0 ++ r) := by
  unfold sixPF
  rw [h]
  dsimp only
  rw [rowF_r, rowF_r]
  cases rrowF false a with
  | none => cases rrowF true b <;> rfl
  | some l =>
    cases rrowF true b with
    | none =>
      dsimp only
      by_cases h1 : 8 < l.length
      · rw [if_pos h1]
      · rw [if_neg h1]
    | some r =>
      dsimp only
      by_cases h8 : 8 ≤ l.length + r.length
      · rw [if_pos h8]
        by_cases h1 : 8 < l.length
        · rw [if_pos h1]
        · rw [if_neg h1]
          by_cases h2 : 8 < r.length
          · rw [if_pos h2]
          · rw [if_neg h2]
            dsimp only
            rw [if_pos h8]
      · rw [if_neg h8, if_neg (by omega), if_neg (by omega)]
        dsimp only
        rw [if_neg h8]
/-- the answer's variable and the array that is filled, in blocks b and b + 1 -/
structure Out (w : World) (b : Nat) (cs ds : List Int) (wr : World) : Prop where
  a : wr.heap[b]? = some (.cells (U16s cs).toArray 24 (0, 0))
  x : wr.heap[b + 1]? = some (.cells (U16s ds).toArray 24 (0, 0))
  la : cs.length = 8
  lx : ds.length = 8
  bel : Below w.heap.size w wr
theorem Out.lt {w : World} {b : Nat} {cs ds : List Int} {wr : World} (h : Out w b cs ds wr) : b + 1 < wr.heap.size := (Array.getElem?_eq_some_iff.1 h.x).1
theorem Out.below {w : World} {b : Nat} {cs ds : List Int} {wr w2 : World} (h : Out w b cs ds wr) (hb : w.heap.size ≤ b) (h2 : Below wr.heap.size wr w2) : Out w b cs ds w2 := by
  have := h.lt
  exact ⟨(h2.block b (by omega)).trans h.a, (h2.block (b + 1) (by omega)).trans h.x, h.la, h.lx, h.bel.trans (h2.mono (by omega))⟩
theorem Out.row {w : World} {b : Nat} {cs ds es : List Int} {wr : World} (h : Out w b cs ds wr) (hb : w.heap.size ≤ b) (hd : es.length = 8) : Out w b es ds (wr.setRow b (U16s es).toArray) :=
  ⟨setRow_heap wr b _ _ _ _ h.a, (setRow_other wr b (b + 1) _ (by omega)).trans h.x, hd, h.lx, below_setRow h.bel hb _⟩
theorem Out.set {w : World} {b : Nat} {cs ds : List Int} {wr : World} (h : Out w b cs ds wr) (hb : w.heap.size ≤ b) (i : Nat) (n : Int) : Out w b cs (ds.set i n) (wr.setCell ⟨b + 1, i, none⟩ (.int .u16 n)) := by
  have e := setCell_eq_setRow wr (b + 1) i _ _ _ (.int .u16 n) h.x
  rw [e]
  have e2 : (U16s ds).toArray.setIfInBounds i (.int .u16 n) = (U16s (ds.set i n)).toArray := by
    rw [List.setIfInBounds_toArray]
    show ((ds.map (Value.int .u16)).set i (.int .u16 n)).toArray = ((ds.set i n).map (Value.int .u16)).toArray
    rw [List.map_set]
  rw [e2]
  exact ⟨(setRow_other wr (b + 1) b _ (by omega)).trans h.a, setRow_heap wr (b + 1) _ _ _ _ h.x, h.la, by rw [List.length_set]; exact h.lx, below_setRow h.bel (by omega) _⟩
theorem Out.cell {w : World} {b : Nat} {cs ds : List Int} {wr : World} (h : Out w b cs ds wr) (i : Nat) (hi : i < 8) : (∃ v, wr.cell? ⟨b + 1, i, none⟩ = some v) ∧ wr.frozen? ⟨b + 1, i, none⟩ = false := by
  constructor
  · have : i < ds.length := by rw [h.lx]; exact hi
    exact ⟨.int .u16 ds[i], by simp [World.cell?, h.x, this]⟩
  · simp [World.frozen?, h.x]
theorem cell_off (w : World) (b i g j : Nat) (v : Value) (h : g ≠ b) : (w.setCell ⟨b, i, none⟩ v).cell? ⟨g, j, none⟩ = w.cell? ⟨g, j, none⟩ := by
  apply World.cell?_of_block
  show (w.setCell ⟨b, i, none⟩ v).heap[g]? = w.heap[g]?
  simp [World.setCell, Array.getElem?_modify, Ne.symm h]
theorem out_fresh (w : World) : Out w w.heap.size Z8 Z8 ((w.alloc (.cells (U16s Z8).toArray 24)).alloc (.cells (U16s Z8).toArray 24)) := by
  refine ⟨?_, ?_, rfl, rfl, ((Below.refl _ w).alloc (Nat.le_refl _) _).alloc (by simp) _⟩
  · rw [Below.heap_alloc _ _ _ (by simp), heap_alloc_new]
  · have := heap_alloc_new (w.alloc (.cells (U16s Z8).toArray 24)) (.cells (U16s Z8).toArray 24)
    simpa using this
theorem rsix_res {tmps : Array Value} {w w2 : World} {g : Nat} {cs ds : List Int} {q : Bool} (h2 : tmps.getD 2 undef = .pointer (some ⟨g, 0, none⟩)) (h3 : tmps.getD 3 undef = .bool q) (h : Out w g cs ds w2) :
    (results Tryz.f24 tmps).run Tryz.prog w2 = .ok (.tuple #[.agg (U16s cs).toArray, .bool q]) w2 := by
  have h2' : tmps[2]?.getD undef = .pointer (some ⟨g, 0, none⟩) := by simpa using h2
  have h3' : tmps[3]?.getD undef = .bool q := by simpa using h3
  have hl := run_loadVar_row (P := Tryz.prog) w2 g 24 24 (U16s cs).toArray (0, 0) _ h.a Tryz.underlying24 rfl (by rw [size8]; simp [h.la])
  simp [results, Tryz.results24, asAddr, h2', h3', hl]
theorem rleave {tmps : Array Value} {w w3 : World} {g : Nat} {cs ds : List Int} {q : Bool} (h2 : tmps.getD 2 undef = .pointer (some ⟨g, 0, none⟩)) (h3 : tmps.getD 3 undef = .bool q) (h : Out w g cs ds w3) {R : Option (List Int)} (hR : cs = R.getD Z8) (hq : q = R.isSome) :
    bodyPost Tryz.prog Tryz.f24 (fun e w' => e = sixE R ∧ Below w.heap.size w w') Exit.ret { tmps := tmps, defers := [] } w3 :=
  bodyPost_ret (rsix_res h2 h3 h) rfl ⟨by rw [hR, hq], h.bel⟩
end Go.Proofs.YtgfklkfbccknoaaGreatDoor

/- The walk of the reference's Parse of layer 10. -/
namespace Go.Proofs.YtgfklkfbccknoaaGreatDoor
open Go.RowKit
set_option maxRecDepth 10000

theorem splice_step {L v : List Int} {off k : Nat} (hk : k < v.length) (h : off + v.length ≤ L.length) : (splice L off (v.take k)).set (off + k) v[k] = splice L off (v.take (k + 1)) := by
  unfold splice
  rw [List.length_take, List.length_take, Nat.min_eq_left (by omega), Nat.min_eq_left (by omega), List.drop_eq_getElem_cons (show off + k < L.length by omega)]
  have h1 : (L.take off).length = off := by rw [List.length_take]; omega
  have h2 : (v.take k).length = k := by rw [List.length_take]; omega
  rw [List.set_append_right _ _ (by omega), h1, show off + k - off = k by omega, List.set_append_right _ _ (by omega), h2, Nat.sub_self, List.take_succ_eq_append_getElem hk, List.append_assoc, Nat.add_assoc]
  rfl
/-- what a row of the call's own shows, apart from block b -/
def OwnAt (w : World) (av : Option Addr) (b : Nat) (xs : List Int) : Prop := ∀ i (hi : i < xs.length), ∃ g, av = some ⟨g, 0, none⟩ ∧ g ≠ b ∧ w.cell? ⟨g, i, none⟩ = some (.int .i64 xs[i])
theorem OwnAt.of {w : World} {av : Option Addr} {B b n c : Nat} {xs : List Int} (h : w.ownsRow B 3 1 (.slice av n c) n (I64s xs)) (hb : b < B) : OwnAt w av b xs := by
  intro i hi
  rcases own_where h with ⟨_, h0⟩ | ⟨g, c', hv, hg1, _, hcv⟩
  · have : (I64s xs).length = 0 := by rw [h0]; rfl
    rw [List.length_map] at this; omega
  · injection hv with e1 _ _
    refine ⟨g, e1, by omega, ?_⟩
    have := hcv i (by rw [List.length_map]; exact hi)
    rw [Nat.zero_add] at this
    simpa using this
theorem OwnAt.set {w : World} {av : Option Addr} {b : Nat} {xs : List Int} (h : OwnAt w av b xs) (i : Nat) (v : Value) : OwnAt (w.setCell ⟨b, i, none⟩ v) av b xs := by
  intro j hj
  obtain ⟨g, h1, h2, h3⟩ := h j hj
  exact ⟨g, h1, h2, by rw [cell_off _ _ _ _ _ _ h2]; exact h3⟩
theorem OwnAt.below {w w2 : World} {av : Option Addr} {b : Nat} {xs : List Int} (h : OwnAt w av b xs) (hb : Below w.heap.size w w2) : OwnAt w2 av b xs := by
  intro j hj
  obtain ⟨g, h1, h2, h3⟩ := h j hj
  exact ⟨g, h1, h2, by rw [hb.cell (p := ⟨g, j, none⟩) (block_lt_of_cell h3)]; exact h3⟩
theorem rowP_len (nums : Bool) : ∀ (ps : List Bytes) (l : List Int), rowP nums ps = some l → l.length ≤ ps.length + 1
  | [], l, h => by unfold rowP at h; injection h with h; subst h; simp
  | [t], l, h => by unfold rowP at h; have := (endP_range h).2; simp; omega
  | t :: q :: r, l, h => by
    unfold rowP at h
    cases hp : pieceF t with
    | none => rw [hp] at h; cases h
    | some n =>
      rw [hp] at h
      obtain ⟨v, hv, rfl⟩ := Option.map_eq_some_iff.mp h
      have := rowP_len nums (q :: r) v hv
      simp at this ⊢
      omega
theorem rrow_len {nums : Bool} {s : Bytes} {l : List Int} (h : rrowF nums s = some l) : l.length ≤ s.length + 2 := by
  unfold rrowF at h
  split at h
  · injection h with h; subst h; simp
  · have := rowP_len _ _ _ h
    have := cutC_len 58 s
    omega
def colon2 (l : Bytes) (j : Nat) : Prop := ∃ h : j + 1 < l.length, l[j] = 58 ∧ l[j + 1] = 58
def atV : Option Nat → Value | none => .int .i64 (-1) | some j => .int .i64 j
set_option maxHeartbeats 40000000 in
theorem rsixparse_any (l : Bytes) (w : World) (hl : l.length ≤ 90000) : Calls Tryz.prog 24 #[.string (bs l)] w fun e w' => e = sixE (sixPF l) ∧ Below w.heap.size w w' := by
  have hone := fun h => six_one (s := l) h
  have htwo := fun a b h => six_two (s := l) (a := a) (b := b) h
  have hcn := cut2_none l
  have hcs := cut2_some l
  have hr1 := fun W => rrow_any l true W hl
  have hra := fun j W => rrow_any (l.take j) false W (by rw [List.length_take]; omega)
  have hrb := fun j W => rrow_any (l.drop j) true W (by rw [List.length_drop]; omega)
  obtain ⟨R, hR⟩ : ∃ R, R = sixPF l := ⟨_, rfl⟩
  rw [← hR] at hone htwo ⊢
  clear hR
  obtain ⟨s, hs⟩ : ∃ s, s = bs l := ⟨_, rfl⟩
  have hsz : s.size = l.length := by rw [hs, bs_size]
  have hby : ∀ k (hk : k < s.size) (hk2 : k < l.length), ((s[k]'hk).toNat : Int) = b2 l[k] := fun k hk hk2 => str_at hs hk hk2
  have hex0 : ∀ j, s.extract 0 j = bs (l.take j) := fun j => by rw [hs, bs_extract]; simp
  have hexn : ∀ j, s.extract j s.size = bs (l.drop j) := fun j => by rw [hs, bs_extract, bs_size, List.take_of_length_le (by rw [List.length_drop]; omega)]
  rw [← hs] at hr1 ⊢
  clear hs
  obtain ⟨N, hN⟩ : ∃ N, N = s.size := ⟨_, rfl⟩
  have hsN : s.size = N := hN.symm
  rw [hsN] at hexn
  have hNm : N ≤ 90000 := by omega
  have HSZ := Lib.hid (show N = l.length by omega); clear hN hsz hl
  have HONE := Lib.hid hone; clear hone
  have HTWO := Lib.hid htwo; clear htwo
  have HCN := Lib.hid hcn; clear hcn
  have HCS := Lib.hid hcs; clear hcs
  have HR1 := Lib.hid hr1; clear hr1
  have HRA := Lib.hid hra; clear hra
  have HRB := Lib.hid hrb; clear hrb
  have HBY := Lib.hid hby; clear hby
  have HEX0 := Lib.hid hex0; clear hex0
  have HEXN := Lib.hid hexn; clear hexn
  have HO0 := Lib.hid (out_fresh w)
  have e1 : (-1 : Int) < 0 := by decide
  go_enter Tryz.func24, Tryz.ntmps24
  go_wp2_with (first | (refine alloc_to rfl 24 rfl _ _ (all8z _) ?_) | fail)
  have hsz2 : w.heap.size + 1 < ((w.alloc (.cells (U16s Z8).toArray 24)).alloc (.cells (U16s Z8).toArray 24)).heap.size := HO0.out.lt
  revert HO0 hsz2
  generalize ((w.alloc (.cells (U16s Z8).toArray 24)).alloc (.cells (U16s Z8).toArray 24)) = w1
  intro HO0 hsz2
  go_loopw [5, 6] (fun av iv wr => ∃ (k : Nat) (q : Option Nat), k ≤ N ∧ iv = .int .i64 k ∧ av = atV q ∧ Hid ((q = none → ∀ j, j < k → ¬ colon2 l j) ∧ ∀ j, q = some j → colon2 l j ∧ ∀ i, i < j → ¬ colon2 l i) ∧ w1 = wr) (fun _ i _ => N - (intOf i).toNat)
  case atStart => exact ⟨0, none, Nat.zero_le _, by simp, by rfl, ⟨fun _ j h => absurd h (Nat.not_lt_zero j), fun j h => by cases h⟩, rfl⟩
  case round =>
    obtain ⟨k, q, hk, rfl, rfl, hinv, rfl⟩ := hrel
    have hwk : IntKind.i64.wrap ((k : Int) + 1) = (k : Int) + 1 := IntWalk.i64_in _ (by omega)
    cases q with
    | none =>
      simp only [atV]
      have hno := hinv.out.1 rfl
      by_cases hlt : k + 1 < N
      · have hku : k < s.size := by rw [hsN]; omega
        have hku1 : k + 1 < s.size := by rw [hsN]; exact hlt
        have hkl : k + 1 < l.length := by have := HSZ.out; omega
        have hx := HBY.out k hku (by omega)
        have hx1 := HBY.out (k + 1) hku1 hkl
        by_cases hc : colon2 l k
        · obtain ⟨_, c1, c2⟩ := hc
          have hb1 : b2 l[k] = 58 := by rw [c1]; decide
          have hb2 : b2 l[k + 1] = 58 := by rw [c2]; decide
          rw [hb1] at hx
          rw [hb2] at hx1
          have HINV := Lib.hid (show ((some k = none → ∀ j, j < k + 1 → ¬ colon2 l j) ∧ ∀ j, some k = some j → colon2 l j ∧ ∀ i, i < j → ¬ colon2 l i) from ⟨fun h => (by cases h), fun j h => by injection h with h; subst h; exact ⟨⟨hkl, c1, c2⟩, hno⟩⟩)
          clear hno hinv c1 c2 hb1 hb2
          go_wp2_with fail
          go_roundw
          case rel => exact ⟨k + 1, some k, by omega, by simp, by rfl, HINV.out, by trivial⟩
          case measure => simp [intOf]; omega
        · have hcc : ¬ (b2 (l[k]'(by omega)) = 58 ∧ b2 l[k + 1] = 58) := fun h => hc ⟨hkl, b2_inj (y := 58) (h.1.trans (by decide)), b2_inj (y := 58) (h.2.trans (by decide))⟩
          have hno2 : ∀ j, j < k + 1 → ¬ colon2 l j := fun j h => by
            rcases Nat.lt_or_ge j k with h1 | h1
            · exact hno j h1
            · obtain rfl : j = k := by omega
              exact hc
          have HINV := Lib.hid (show (((none : Option Nat) = none → ∀ j, j < k + 1 → ¬ colon2 l j) ∧ ∀ j, (none : Option Nat) = some j → colon2 l j ∧ ∀ i, i < j → ¬ colon2 l i) from ⟨fun _ => hno2, fun j h => (by cases h)⟩)
          clear hno2
          clear hno hinv hc
          generalize b2 (l[k]'(by omega)) = X at hx hcc
          generalize b2 l[k + 1] = Y at hx1 hcc
          by_cases hX : X = 58
          · have hY : (Y == 58) = false := by simpa using fun h => hcc ⟨hX, h⟩
            subst hX
            clear hcc
            go_wp2_with fail
            go_roundw
            case rel => exact ⟨k + 1, none, by omega, by simp, by rfl, HINV.out, by trivial⟩
            case measure => simp [intOf]; omega
          · have hX1 : (X == 58) = false := by simpa using hX
            clear hcc
            go_wp2_with fail
            go_roundw
            case rel => exact ⟨k + 1, none, by omega, by simp, by rfl, HINV.out, by trivial⟩
            case measure => simp [intOf]; omega
      · have hc := HCN.out (fun j h hj => hno j (by have := HSZ.out; omega) ⟨h, hj⟩)
        have hR := HONE.out hc
        have hlt' : ¬ (k : Int) + 1 < (N : Int) := by omega
        clear hno hinv hc HONE HTWO HCN HCS HRA HRB HEX0 HEXN HBY
        cases hrr : rrowF true l with
        | none =>
          rw [hrr] at hR HR1
          have HR := Lib.hid hR; clear hR hrr
          replace HR1 := Lib.hid (show ∀ W, Calls Tryz.prog 45 #[.string s, .bool true] W fun e w' => e = .returned (.tuple #[.slice none 0 0, .bool false]) ∧ Below W.heap.size W w' from HR1.out)
          go_wp2_with (first
            | (go_at_call 45; refine (HR1.out _).mono ?_; rintro e w3 ⟨rfl, hb3⟩; have HO1 := Lib.hid (HO0.out.below (Nat.le_refl _) hb3); clear hb3)
            | (refine wpList_load_row rfl 24 (.tmp 4) rfl (w.heap.size + 1) rfl _ _ _ _ HO1.out.x Tryz.underlying24 rfl (by rw [size8]; rfl) ?_)
                | (refine wpList_store_row rfl 24 (.tmp 2) (.tmp 53) rfl w.heap.size (U16s Z8).toArray rfl rfl _ _ HO1.out.a (by rw [size8]; rfl) (by simp [Z8]) (one8 _) ?_
                   have hto := HO1.out.row (es := Z8) (Nat.le_refl _) rfl
                   revert hto
                   generalize World.setRow _ w.heap.size (U16s Z8).toArray = wz
                   intro hto
                   have HTO := Lib.hid hto; clear hto)
            | fail)
          exact rleave rfl rfl HTO.out (by rw [HR.out]; rfl) (by rw [HR.out]; rfl)
        | some v =>
          rw [hrr] at hR HR1
          have HRG := Lib.hid (rrow_range hrr)
          obtain ⟨M, hM⟩ : ∃ M, M = v.length := ⟨_, rfl⟩
          replace HR1 := Lib.hid (show ∀ W, Calls Tryz.prog 45 #[.string s, .bool true] W fun e w' => (∃ x, e = .returned (.tuple #[x, .bool true]) ∧ w'.ownsRow W.heap.size 3 1 x M (I64s v)) ∧ Below W.heap.size W w' by rw [hM]; exact HR1.out)
          dsimp only at hR
          rw [← hM] at hR
          have HM := Lib.hid hM; clear hM hrr
          by_cases h8 : M = 8
          · rw [if_pos h8] at hR
            subst h8
            have HR := Lib.hid hR; clear hR
            go_wp2_with (first
              | (go_at_call 45; refine (HR1.out _).mono ?_; rintro e w3 ⟨⟨x, rfl, ho3⟩, hb3⟩; obtain ⟨av, cv, hv⟩ := own_val ho3; subst hv; have HOV := Lib.hid ho3; clear ho3; have HO1 := Lib.hid (HO0.out.below (Nat.le_refl _) hb3); have hz3 := hb3.size; clear hb3)
              | fail)
            rcases own_where HOV.out with ⟨hv0, _⟩ | ⟨g, c', hv0, hg1, _, hcv⟩
            · injection hv0 with e1 e2; omega
            injection hv0 with e1 _ e3
            subst e1 e3
            have HCV := Lib.hid (show ∀ i (hi : i < v.length), w3.cell? ⟨g, i, none⟩ = some (.int .i64 v[i]) from fun i hi => by have := hcv i (by rw [List.length_map]; exact hi); rw [Nat.zero_add] at this; simpa using this)
            clear hcv HOV
            have hgne : g ≠ w.heap.size + 1 := by omega
            go_loopw [9] (fun iv wr => ∃ k : Nat, k ≤ 8 ∧ iv = .int .i64 k ∧ Hid (Out w w.heap.size Z8 (splice Z8 0 (v.take k)) wr) ∧ Hid (∀ i (hi : i < v.length), wr.cell? ⟨g, i, none⟩ = some (.int .i64 v[i]))) (fun i _ => 8 - (intOf i).toNat)
            case atStart => exact ⟨0, by omega, by simp, HO1.out, HCV.out⟩
            case round =>
              obtain ⟨k2, hk2, rfl, hout, hcv⟩ := hrel
              by_cases hlt2 : k2 < 8
              · have hkv : k2 < v.length := by have := HM.out; omega
                have hcell := hcv.out k2 hkv
                have hn := HRG.out _ (List.getElem_mem hkv)
                have hset := splice_step (L := Z8) (off := 0) hkv (by rw [← HM.out]; decide)
                obtain ⟨⟨old, hold⟩, hfz⟩ := hout.out.cell k2 hlt2
                obtain ⟨n, hnn⟩ : ∃ n, n = v[k2] := ⟨_, rfl⟩
                rw [← hnn] at hcell hn hset
                rw [Nat.zero_add] at hset
                have hwn : IntKind.u16.wrap n = n := by rw [IntKind.wrap_u16]; omega
                have HS := Lib.hid (show Out w w.heap.size Z8 (splice Z8 0 (v.take (k2 + 1))) _ from hset ▸ hout.out.set (Nat.le_refl _) k2 n)
                have HCW := Lib.hid (show ∀ i (hi : i < v.length), (wr.setCell ⟨w.heap.size + 1, k2, none⟩ (.int .u16 n)).cell? ⟨g, i, none⟩ = some (.int .i64 v[i]) from fun i hi => by rw [cell_off _ _ _ _ _ _ hgne]; exact hcv.out i hi)
                clear hset hnn hn
                go_wp2_with fail
                go_roundw
                case rel => exact ⟨k2 + 1, by omega, by simp, HS.out, HCW.out⟩
                case measure => simp [intOf]; omega
              · obtain rfl : k2 = 8 := by omega
                have hout2 := hout.out
                rw [List.take_of_length_le (by rw [← HM.out]; exact Nat.le_refl _), show splice Z8 0 v = v by unfold splice; rw [← HM.out]; simp [Z8]] at hout2
                have HO2 := Lib.hid hout2; clear hout2 hout
                go_wp2_with (first
                  | (refine wpList_load_row rfl 24 (.tmp 4) rfl (w.heap.size + 1) rfl _ _ _ _ HO2.out.x Tryz.underlying24 rfl (by rw [size8]; simp only [List.size_toArray, List.length_map, HO2.out.lx]) ?_)
                      | (refine wpList_store_row rfl 24 (.tmp 2) (.tmp 65) rfl w.heap.size (U16s v).toArray rfl rfl _ _ HO2.out.a (by rw [size8]; simp only [List.size_toArray, List.length_map, HO2.out.lx]) (by simp [Z8]; exact HO2.out.lx.symm) (one8 _) ?_
                         have hto := HO2.out.row (es := v) (Nat.le_refl _) HO2.out.lx
                         revert hto
                         generalize World.setRow _ w.heap.size (U16s v).toArray = wz
                         intro hto
                         have HTO := Lib.hid hto; clear hto)
                  | fail)
                exact rleave rfl rfl HTO.out (by rw [HR.out]; rfl) (by rw [HR.out]; rfl)
          · rw [if_neg h8] at hR
            have HR := Lib.hid hR; clear hR
            have h8' : ((M : Int) == 8) = false := by simp; omega
            go_wp2_with (first
              | (go_at_call 45; refine (HR1.out _).mono ?_; rintro e w3 ⟨⟨x, rfl, ho3⟩, hb3⟩; obtain ⟨av, cv, hv⟩ := own_val ho3; subst hv; have HOV := Lib.hid ho3; clear ho3; have HO1 := Lib.hid (HO0.out.below (Nat.le_refl _) hb3); have hz3 := hb3.size; clear hb3)
              | (refine wpList_load_row rfl 24 (.tmp 4) rfl (w.heap.size + 1) rfl _ _ _ _ HO1.out.x Tryz.underlying24 rfl (by rw [size8]; rfl) ?_)
                  | (refine wpList_store_row rfl 24 (.tmp 2) (.tmp 53) rfl w.heap.size (U16s Z8).toArray rfl rfl _ _ HO1.out.a (by rw [size8]; rfl) (by simp [Z8]) (one8 _) ?_
                     have hto := HO1.out.row (es := Z8) (Nat.le_refl _) rfl
                     revert hto
                     generalize World.setRow _ w.heap.size (U16s Z8).toArray = wz
                     intro hto
                     have HTO := Lib.hid hto; clear hto)
              | fail)
            exact rleave rfl rfl HTO.out (by rw [HR.out]; rfl) (by rw [HR.out]; rfl)
    | some j =>
      simp only [atV]
      obtain ⟨⟨hj1, c1, c2⟩, hno⟩ := hinv.out.2 j rfl
      have hc := HCS.out j hj1 c1 c2 (fun i hi hij h => hno i hij ⟨hi, h⟩)
      have hR := HTWO.out _ _ hc
      have hjN : j + 1 < N := by have := HSZ.out; omega
      have hj0 : ¬ (j : Int) < 0 := by omega
      have hjs : j ≤ s.size := by omega
      have hj2 : j + 2 ≤ s.size := by omega
      have hwj : IntKind.i64.wrap ((j : Int) + 2) = ((j + 2 : Nat) : Int) := by rw [IntWalk.i64_in _ (by omega)]; omega
      have hx0 := HEX0.out j
      have hxn := HEXN.out (j + 2)
      have hra := HRA.out j
      have hrb := HRB.out (j + 2)
      obtain ⟨ua, hua⟩ : ∃ u, u = bs (l.take j) := ⟨_, rfl⟩
      obtain ⟨ub, hub⟩ : ∃ u, u = bs (l.drop (j + 2)) := ⟨_, rfl⟩
      rw [← hua] at hx0 hra
      rw [← hub] at hxn hrb
      obtain ⟨J, hJ⟩ : ∃ J, J = j + 2 := ⟨_, rfl⟩
      rw [← hJ] at hwj hxn hj2
      have hrgA := fun u (h : rrowF false (l.take j) = some u) => rrow_range h
      have hrgB := fun u (h : rrowF true (l.drop (j + 2)) = some u) => rrow_range h
      have hlenA : ∀ u, rrowF false (l.take j) = some u → u.length ≤ 400000 := fun u h => by have := rrow_len h; rw [List.length_take] at this; have := HSZ.out; omega
      have hlenB : ∀ u, rrowF true (l.drop (j + 2)) = some u → u.length ≤ 400000 := fun u h => by have := rrow_len h; rw [List.length_drop] at this; have := HSZ.out; omega
      obtain ⟨A, hA⟩ : ∃ A, A = rrowF false (l.take j) := ⟨_, rfl⟩
      obtain ⟨B, hB⟩ : ∃ B, B = rrowF true (l.drop (j + 2)) := ⟨_, rfl⟩
      rw [← hA] at hra hrgA hR hlenA
      rw [← hB] at hrb hrgB hR hlenB
      clear hA hB
      clear hua hub hJ hno hinv hc c1 c2 HONE HTWO HCN HCS HRA HRB HEX0 HEXN HBY HR1 hj1
      have hrbw : ∀ W, Calls Tryz.prog 45 #[.string ub, .bool true] W fun e w' => ∃ x y, e = .returned (.tuple #[x, .bool y]) ∧ Below W.heap.size W w' := fun W => (hrb W).mono fun e w' h => by
        obtain ⟨h1, h2⟩ := h
        cases B with
        | none => exact ⟨_, _, h1, h2⟩
        | some y => obtain ⟨x, h1, _⟩ := h1; exact ⟨_, _, h1, h2⟩
      by_cases hkk : (k : Int) + 1 < (N : Int)
      all_goals
        cases A with
        | none =>
          have HR := Lib.hid (show R = none from hR); clear hR hrb
          have HRA := Lib.hid (show ∀ W, Calls Tryz.prog 45 #[.string ua, .bool false] W fun e w' => e = .returned (.tuple #[.slice none 0 0, .bool false]) ∧ Below W.heap.size W w' from hra); clear hra
          have HRB := Lib.hid hrbw; clear hrbw
          go_wp2_with (first
            | (go_at_call 45; with_reducible refine (HRA.out _).mono ?_; rintro e w3 ⟨rfl, hb3⟩; have HO1 := Lib.hid (HO0.out.below (Nat.le_refl _) hb3); clear hb3)
            | (go_at_call 45; with_reducible refine (HRB.out _).mono ?_; rintro e w4 ⟨x, y, rfl, hb4⟩; have HO2 := Lib.hid (HO1.out.below (Nat.le_refl _) hb4); clear hb4)
            | (refine wpList_load_row rfl 24 (.tmp 4) rfl (w.heap.size + 1) rfl _ _ _ _ HO2.out.x Tryz.underlying24 rfl (by rw [size8]; rfl) ?_)
            | (refine wpList_store_row rfl 24 (.tmp 2) (.tmp 95) rfl w.heap.size (U16s Z8).toArray rfl rfl _ _ HO2.out.a (by rw [size8]; rfl) (by simp [Z8]) (one8 _) ?_
               have hto := HO2.out.row (es := Z8) (Nat.le_refl _) rfl
               revert hto
               generalize World.setRow _ w.heap.size (U16s Z8).toArray = wz
               intro hto
               have HTO := Lib.hid hto; clear hto)
            | fail)
          exact rleave rfl rfl HTO.out (by rw [HR.out]; rfl) (by rw [HR.out]; rfl)
        | some u =>
          have HGA := Lib.hid (hrgA u rfl)
          obtain ⟨L, hL⟩ : ∃ L, L = u.length := ⟨_, rfl⟩
          have HRA := Lib.hid (show ∀ W, Calls Tryz.prog 45 #[.string ua, .bool false] W fun e w' => (∃ x, e = .returned (.tuple #[x, .bool true]) ∧ w'.ownsRow W.heap.size 3 1 x L (I64s u)) ∧ Below W.heap.size W w' from by rw [hL]; exact hra); clear hra hrgA
          cases B with
          | none =>
            have HR := Lib.hid (show R = none from hR); clear hR
            have HRB := Lib.hid (show ∀ W, Calls Tryz.prog 45 #[.string ub, .bool true] W fun e w' => e = .returned (.tuple #[.slice none 0 0, .bool false]) ∧ Below W.heap.size W w' from hrb); clear hrb hrbw hrgB hL
            go_wp2_with (first
              | (go_at_call 45; with_reducible refine (HRA.out _).mono ?_; rintro e w3 ⟨⟨x, rfl, ho3⟩, hb3⟩; clear ho3; have HO1 := Lib.hid (HO0.out.below (Nat.le_refl _) hb3); clear hb3)
              | (go_at_call 45; with_reducible refine (HRB.out _).mono ?_; rintro e w4 ⟨rfl, hb4⟩; have HO2 := Lib.hid (HO1.out.below (Nat.le_refl _) hb4); clear hb4)
              | (refine wpList_load_row rfl 24 (.tmp 4) rfl (w.heap.size + 1) rfl _ _ _ _ HO2.out.x Tryz.underlying24 rfl (by rw [size8]; rfl) ?_)
              | (refine wpList_store_row rfl 24 (.tmp 2) (.tmp 95) rfl w.heap.size (U16s Z8).toArray rfl rfl _ _ HO2.out.a (by rw [size8]; rfl) (by simp [Z8]) (one8 _) ?_
                 have hto := HO2.out.row (es := Z8) (Nat.le_refl _) rfl
                 revert hto
                 generalize World.setRow _ w.heap.size (U16s Z8).toArray = wz
                 intro hto
                 have HTO := Lib.hid hto; clear hto)
              | fail)
            exact rleave rfl rfl HTO.out (by rw [HR.out]; rfl) (by rw [HR.out]; rfl)
          | some v =>
            have HGB := Lib.hid (hrgB v rfl)
            obtain ⟨M, hM⟩ : ∃ M, M = v.length := ⟨_, rfl⟩
            have HRB := Lib.hid (show ∀ W, Calls Tryz.prog 45 #[.string ub, .bool true] W fun e w' => (∃ x, e = .returned (.tuple #[x, .bool true]) ∧ w'.ownsRow W.heap.size 3 1 x M (I64s v)) ∧ Below W.heap.size W w' from by rw [hM]; exact hrb); clear hrb hrbw hrgB
            have hLb : L ≤ 400000 := by rw [hL]; exact hlenA u rfl
            have hMb : M ≤ 400000 := by rw [hM]; exact hlenB v rfl
            replace hR : R = if 8 ≤ L + M then none else some (u ++ List.replicate (8 - L - M) 0 ++ v) := by rw [hL, hM]; exact hR
            have HL := Lib.hid hL; clear hL
            have HM := Lib.hid hM; clear hM
            have hws : IntKind.i64.wrap ((L : Int) + (M : Int)) = (L : Int) + (M : Int) := IntWalk.i64_in _ (by omega)
            by_cases h8 : 8 ≤ L + M
            · rw [if_pos h8] at hR
              have HR := Lib.hid hR; clear hR
              have h8' : (7 : Int) < (L : Int) + (M : Int) := by omega
              go_wp2_with (first
                | (go_at_call 45; with_reducible refine (HRA.out _).mono ?_; rintro e w3 ⟨⟨x, rfl, ho3⟩, hb3⟩; obtain ⟨au, cu, hu⟩ := own_val ho3; subst hu; have HCA := Lib.hid (OwnAt.of ho3 hsz2); clear ho3; have HO1 := Lib.hid (HO0.out.below (Nat.le_refl _) hb3); have hz3 := hb3.size; clear hb3)
                | (go_at_call 45; with_reducible refine (HRB.out _).mono ?_; rintro e w4 ⟨⟨y, rfl, ho4⟩, hb4⟩; obtain ⟨av, cv, hv⟩ := own_val ho4; subst hv; have HCV := Lib.hid (OwnAt.of ho4 (Nat.lt_of_lt_of_le hsz2 hz3)); have HCU := Lib.hid (HCA.out.below hb4); clear ho4; have HO2 := Lib.hid (HO1.out.below (Nat.le_refl _) hb4); clear hb4)
                | (refine wpList_load_row rfl 24 (.tmp 4) rfl (w.heap.size + 1) rfl _ _ _ _ HO2.out.x Tryz.underlying24 rfl (by rw [size8]; rfl) ?_)
                | (refine wpList_store_row rfl 24 (.tmp 2) (.tmp 95) rfl w.heap.size (U16s Z8).toArray rfl rfl _ _ HO2.out.a (by rw [size8]; rfl) (by simp [Z8]) (one8 _) ?_
                   have hto := HO2.out.row (es := Z8) (Nat.le_refl _) rfl
                   revert hto
                   generalize World.setRow _ w.heap.size (U16s Z8).toArray = wz
                   intro hto
                   have HTO := Lib.hid hto; clear hto)
                | fail)
              exact rleave rfl rfl HTO.out (by rw [HR.out]; rfl) (by rw [HR.out]; rfl)
            · rw [if_neg h8] at hR
              obtain ⟨T, hT⟩ : ∃ T, T = u ++ List.replicate (8 - L - M) 0 ++ v := ⟨_, rfl⟩
              rw [← hT] at hR
              have HT := Lib.hid hT; clear hT
              have HR := Lib.hid hR; clear hR
              have h8' : ¬ (7 : Int) < (L : Int) + (M : Int) := by omega
              obtain ⟨K, hK⟩ : ∃ K, K = 8 - M := ⟨_, rfl⟩
              have hKM : K + M = 8 := by omega
              have hwK : IntKind.i64.wrap (8 - (M : Int)) = (K : Int) := by rw [IntWalk.i64_in _ (by omega)]; omega
              clear hK
              go_wp2_with (first
                | (go_at_call 45; with_reducible refine (HRA.out _).mono ?_; rintro e w3 ⟨⟨x, rfl, ho3⟩, hb3⟩; obtain ⟨au, cu, hu⟩ := own_val ho3; subst hu; have HCA := Lib.hid (OwnAt.of ho3 hsz2); clear ho3; have HO1 := Lib.hid (HO0.out.below (Nat.le_refl _) hb3); have hz3 := hb3.size; clear hb3)
                | (go_at_call 45; with_reducible refine (HRB.out _).mono ?_; rintro e w4 ⟨⟨y, rfl, ho4⟩, hb4⟩; obtain ⟨av, cv, hv⟩ := own_val ho4; subst hv; have HCV := Lib.hid (OwnAt.of ho4 (Nat.lt_of_lt_of_le hsz2 hz3)); have HCU := Lib.hid (HCA.out.below hb4); clear ho4; have HO2 := Lib.hid (HO1.out.below (Nat.le_refl _) hb4); clear hb4)
                | fail)
              go_loopw [14] (fun iv wr => ∃ k : Nat, k ≤ L ∧ iv = .int .i64 k ∧ Hid (Out w w.heap.size Z8 (splice Z8 0 (u.take k)) wr) ∧ Hid (OwnAt wr au (w.heap.size + 1) u) ∧ Hid (OwnAt wr av (w.heap.size + 1) v)) (fun i _ => L - (intOf i).toNat)
              case atStart => exact ⟨0, Nat.zero_le _, by simp, (show Out w w.heap.size Z8 (splice Z8 0 (u.take 0)) _ from HO2.out), HCU.out, HCV.out⟩
              case round =>
                obtain ⟨k2, hk2, rfl, hout, hcu, hcv⟩ := hrel
                by_cases hlt2 : k2 < L
                · have hkv : k2 < u.length := by have := HL.out; omega
                  have hat := hcu.out k2 hkv
                  have hn := HGA.out _ (List.getElem_mem hkv)
                  have hset := splice_step (L := Z8) (off := 0) hkv (by rw [← HL.out]; show 0 + L ≤ 8; omega)
                  obtain ⟨⟨old, hold⟩, hfz⟩ := hout.out.cell (0 + k2) (by omega)
                  obtain ⟨n, hnn⟩ : ∃ n, n = u[k2] := ⟨_, rfl⟩
                  rw [← hnn] at hat hn hset
                  rw [Nat.zero_add] at hset hold hfz
                  have hwn : IntKind.u16.wrap n = n := by rw [IntKind.wrap_u16]; omega
                  have HS := Lib.hid (show Out w w.heap.size Z8 (splice Z8 0 (u.take (k2 + 1))) _ from hset ▸ hout.out.set (Nat.le_refl _) (k2) n)
                  have HCU1 := Lib.hid (hcu.out.set (k2) (.int .u16 n))
                  have HCV1 := Lib.hid (hcv.out.set (k2) (.int .u16 n))
                  obtain ⟨g, rfl, hgne, hcell⟩ := hat
                  clear hset hnn hn
                  go_wp2_with fail
                  go_roundw
                  case rel => exact ⟨k2 + 1, by omega, by simp, HS.out, HCU1.out, HCV1.out⟩
                  case measure => simp [intOf]; omega
                · obtain rfl : L = k2 := by omega
                  have hout2 := hout.out
                  rw [List.take_of_length_le (by rw [← HL.out]; exact Nat.le_refl _)] at hout2
                  have HO3 := Lib.hid (show Out w w.heap.size Z8 (splice (splice Z8 0 u) K (v.take 0)) wr by rw [show splice (splice Z8 0 u) K (v.take 0) = splice Z8 0 u by simp [splice]]; exact hout2); clear hout2 hout
                  have HCU2 := Lib.hid hcu.out
                  have HCV2 := Lib.hid hcv.out
                  clear hcu hcv
                  go_wp2_with fail
                  go_loopw [15] (fun iv wr => ∃ k : Nat, k ≤ M ∧ iv = .int .i64 k ∧ Hid (Out w w.heap.size Z8 (splice (splice Z8 0 u) K (v.take k)) wr) ∧ Hid (OwnAt wr au (w.heap.size + 1) u) ∧ Hid (OwnAt wr av (w.heap.size + 1) v)) (fun i _ => M - (intOf i).toNat)
                  case atStart => exact ⟨0, Nat.zero_le _, by simp, HO3.out, HCU2.out, HCV2.out⟩
                  case round =>
                    obtain ⟨k2, hk2, rfl, hout, hcu, hcv⟩ := hrel
                    by_cases hlt2 : k2 < M
                    · have hkv : k2 < v.length := by have := HM.out; omega
                      have hat := hcv.out k2 hkv
                      have hn := HGB.out _ (List.getElem_mem hkv)
                      have hset := splice_step (L := (splice Z8 0 u)) (off := K) hkv (by rw [← HM.out, length_splice _ _ _ (by rw [← HL.out]; show 0 + L ≤ 8; omega)]; show K + M ≤ 8; omega)
                      obtain ⟨⟨old, hold⟩, hfz⟩ := hout.out.cell (K + k2) (by omega)
                      obtain ⟨n, hnn⟩ : ∃ n, n = v[k2] := ⟨_, rfl⟩
                      rw [← hnn] at hat hn hset
                      have hwx : IntKind.i64.wrap ((K : Int) + (k2 : Int)) = ((K + k2 : Nat) : Int) := by rw [IntWalk.i64_in _ (by omega)]; omega
                      obtain ⟨I, hI⟩ : ∃ I, I = K + k2 := ⟨_, rfl⟩
                      rw [← hI] at hwx hset hold hfz
                      have hI8 : I < 8 := by omega
                      have hwn : IntKind.u16.wrap n = n := by rw [IntKind.wrap_u16]; omega
                      have HS := Lib.hid (show Out w w.heap.size Z8 (splice (splice Z8 0 u) K (v.take (k2 + 1))) _ from hset ▸ hout.out.set (Nat.le_refl _) I n)
                      have HCU1 := Lib.hid (hcu.out.set I (.int .u16 n))
                      have HCV1 := Lib.hid (hcv.out.set I (.int .u16 n))
                      obtain ⟨g, rfl, hgne, hcell⟩ := hat
                      clear hset hnn hn hI
                      go_wp2_with fail
                      go_roundw
                      case rel => exact ⟨k2 + 1, by omega, by simp, HS.out, HCU1.out, HCV1.out⟩
                      case measure => simp [intOf]; omega
                    · obtain rfl : M = k2 := by omega
                      have hout2 := hout.out
                      rw [List.take_of_length_le (by rw [← HM.out]; exact Nat.le_refl _), splice_two (K := K) (by rw [← HM.out]; exact hKM) (by rw [← HL.out, ← HM.out]; omega) (fun _ => rfl) (by rw [← HM.out]; omega), ← HL.out, ← HM.out, ← HT.out] at hout2
                      have HO4 := Lib.hid hout2; clear hout2 hout
                      go_wp2_with (first
                        | (refine wpList_load_row rfl 24 (.tmp 4) rfl (w.heap.size + 1) rfl _ _ _ _ HO4.out.x Tryz.underlying24 rfl (by rw [size8]; simp only [List.size_toArray, List.length_map, HO4.out.lx]) ?_)
                            | (refine wpList_store_row rfl 24 (.tmp 2) (.tmp 126) rfl w.heap.size (U16s T).toArray rfl rfl _ _ HO4.out.a (by rw [size8]; simp only [List.size_toArray, List.length_map, HO4.out.lx]) (by simp [Z8]; exact HO4.out.lx.symm) (one8 _) ?_
                               have hto := HO4.out.row (es := T) (Nat.le_refl _) HO4.out.lx
                               revert hto
                               generalize World.setRow _ w.heap.size (U16s T).toArray = wz
                               intro hto
                               have HTO := Lib.hid hto; clear hto)
                        | fail)
                      exact rleave rfl rfl HTO.out (by rw [HR.out]; rfl) (by rw [HR.out]; rfl)
end Go.Proofs.YtgfklkfbccknoaaGreatDoor

/- ref11.bad; hosts, read: the plain form. -/
namespace Go.Proofs.YtgfklkfbccknoaaGreatDoor
open Go.RowKit
set_option maxRecDepth 10000

/-- may a byte not stand in a name? -/
def nbF (c : Int) : Bool := badF c || decide (c < 32 ∨ c = 37 ∨ c = 127)
def nbL (name : Bool) (c : Int) : Bool := badF c || (name && decide (c < 32 ∨ c = 37 ∨ c = 127))
def H0 : Hst := { kind := 0, name := [], four := 0, six := Z8 }
/-- a host, read -/
def brF (s : Bytes) : Option Hst := if Lib.hasSuffix s [93] = true then (match sixPF (Lib.trimSuffix s [93]) with | none => none | some a => some { H0 with kind := 4, six := a }) else none
def nmF (s : Bytes) : Option Hst :=
  match domF (pdF s) with
  | none => none
  | some n => if n = [] then none else if n.any (fun x => nbF (b2 x)) = true then none else if endsF n = true then (match fparse n with | none => none | some v => some { H0 with kind := 3, four := v }) else some { H0 with kind := 2, name := n }
def hostP (s : Bytes) (special : Bool) : Option Hst :=
  if s.head? = some 91 then brF (s.drop 1)
  else if special = true then nmF s
  else if s = [] then some { H0 with kind := 1 }
  else if s.any (fun x => badF (b2 x)) = true then none
  else some { H0 with kind := 5, name := pcB 0 s }
theorem any_at {f : UInt8 → Bool} {l : Bytes} (h : ∀ k (hk : k < l.length), f l[k] = false) : l.any f = false := by
  rw [List.any_eq_false]
  intro x hx
  obtain ⟨k, hk, rfl⟩ := List.getElem_of_mem hx
  simp [h k hk]
theorem any_yes {f : UInt8 → Bool} {l : Bytes} {k : Nat} (hk : k < l.length) (h : f l[k] = true) : l.any f = true := List.any_eq_true.mpr ⟨l[k], List.getElem_mem hk, h⟩
set_option maxHeartbeats 4000000 in
theorem rbad_any (l : Bytes) (name : Bool) (w : World) (hl : l.length ≤ 1000000) : Calls Tryz.prog 25 #[.string (bs l), .bool name] w fun e w' => e = .returned (.bool (l.any fun x => nbL name (b2 x))) ∧ w' = w := by
  obtain ⟨R, hR⟩ : ∃ R, R = l.any fun x => nbL name (b2 x) := ⟨_, rfl⟩
  rw [← hR]
  have hyes : ∀ k (hk : k < l.length), nbL name (b2 l[k]) = true → R = true := fun k hk h => hR.trans (any_yes (f := fun x => nbL name (b2 x)) hk h)
  have hno : (∀ k (hk : k < l.length), nbL name (b2 l[k]) = false) → R = false := fun h => hR.trans (any_at (f := fun x => nbL name (b2 x)) h)
  obtain ⟨s, hs⟩ : ∃ s, s = bs l := ⟨_, rfl⟩
  have hsz : s.size = l.length := by rw [hs, bs_size]
  have hby : ∀ k (hk : k < s.size) (hk2 : k < l.length), ((s[k]'hk).toNat : Int) = b2 l[k] := fun k hk hk2 => str_at hs hk hk2
  rw [← hs]
  clear hs hR
  obtain ⟨N, hN⟩ : ∃ N, N = s.size := ⟨_, rfl⟩
  have hsN : s.size = N := hN.symm
  have hNm : N ≤ 1000000 := by omega
  have HBY := Lib.hid hby; clear hby
  have HSZ := Lib.hid (show N = l.length by omega); clear hsz hl hN
  have HYES := Lib.hid hyes; clear hyes
  have HNO := Lib.hid hno; clear hno
  go_enter Tryz.func25, Tryz.ntmps25
  go_wp2_with fail
  go_loopw [5] (fun iv wr => ∃ k : Nat, k ≤ N ∧ iv = .int .i64 k ∧ Hid (∀ j (hj : j < l.length), j < k → nbL name (b2 l[j]) = false) ∧ w = wr) (fun i _ => N - (intOf i).toNat)
  case atStart => exact ⟨0, Nat.zero_le _, by simp, fun j _ h => absurd h (Nat.not_lt_zero j), rfl⟩
  case round =>
    obtain ⟨k, hk, rfl, hall, rfl⟩ := hrel
    by_cases hlt : k < N
    · have hku : k < s.size := by rw [hsN]; exact hlt
      have hkl : k < l.length := by have := HSZ.out; omega
      have hx := HBY.out k hku hkl
      have hy := HYES.out k hkl
      have hsn : nbL name (b2 l[k]) = false → ∀ j (hj : j < l.length), j < k + 1 → nbL name (b2 l[j]) = false := fun h j hj h1 => by
        rcases Nat.lt_or_ge j k with h2 | h2
        · exact hall.out j hj h2
        · obtain rfl : j = k := by omega
          exact h
      have hbd := fun W => rBad_am (b2 l[k]) W
      rw [bad_am l[k]] at hbd
      generalize b2 l[k] = X at hx hy hsn hbd
      have HBD := Lib.hid hbd; clear hbd hall
      have hdef : nbL name X = (badF X || (name && decide (X < 32 ∨ X = 37 ∨ X = 127))) := rfl
      rw [hdef] at hy hsn
      clear hdef
      obtain ⟨q, hq⟩ : ∃ q, q = badF X := ⟨_, rfl⟩
      rw [← hq] at hy hsn HBD
      have HQ := Lib.hid hq; clear hq
      cases q with
      | true =>
        have HF := Lib.hid (hy rfl); clear hy hsn
        go_wp2_with (first | (go_at_call 16; refine (HBD.out _).mono ?_; rintro e w2 ⟨rfl, hw2⟩; subst hw2) | fail)
        go_ret
        exact ⟨by rw [HF.out]; rfl, rfl⟩
      | false =>
        cases name with
        | false =>
          have HS := Lib.hid (hsn rfl); clear hy hsn
          go_wp2_with (first | (go_at_call 16; refine (HBD.out _).mono ?_; rintro e w2 ⟨rfl, hw2⟩; subst hw2) | fail)
          go_roundw
          case rel => exact ⟨k + 1, by omega, by simp, HS.out, by trivial⟩
          case measure => simp [intOf]; omega
        | true =>
          by_cases h1 : X < 32
          · have HF := Lib.hid (hy (by simp [h1])); clear hy hsn
            go_wp2_with (first | (go_at_call 16; refine (HBD.out _).mono ?_; rintro e w2 ⟨rfl, hw2⟩; subst hw2) | fail)
            go_ret
            exact ⟨by rw [HF.out]; rfl, rfl⟩
          · by_cases h2 : X = 37
            · have HF := Lib.hid (hy (by simp [h2])); clear hy hsn
              subst h2
              go_wp2_with (first | (go_at_call 16; refine (HBD.out _).mono ?_; rintro e w2 ⟨rfl, hw2⟩; subst hw2) | fail)
              go_ret
              exact ⟨by rw [HF.out]; rfl, rfl⟩
            · have q2 : (X == 37) = false := by simpa using h2
              by_cases h3 : X = 127
              · have HF := Lib.hid (hy (by simp [h3])); clear hy hsn
                subst h3
                go_wp2_with (first | (go_at_call 16; refine (HBD.out _).mono ?_; rintro e w2 ⟨rfl, hw2⟩; subst hw2) | fail)
                go_ret
                exact ⟨by rw [HF.out]; rfl, rfl⟩
              · have q3 : (X == 127) = false := by simpa using h3
                have HS := Lib.hid (hsn (by simp [h1, h2, h3])); clear hy hsn
                go_wp2_with (first | (go_at_call 16; refine (HBD.out _).mono ?_; rintro e w2 ⟨rfl, hw2⟩; subst hw2) | fail)
                go_roundw
                case rel => exact ⟨k + 1, by omega, by simp, HS.out, by trivial⟩
                case measure => simp [intOf]; omega
    · obtain rfl : k = N := by omega
      have HF := Lib.hid (HNO.out (fun j hj => hall.out j hj (by have := HSZ.out; omega))); clear hall
      go_wp2_with fail
      go_ret
      exact ⟨by rw [HF.out]; rfl, rfl⟩
end Go.Proofs.YtgfklkfbccknoaaGreatDoor

/- host.bracketed; how hosts are built, laid and answered. -/
namespace Go.Proofs.YtgfklkfbccknoaaGreatDoor
open Go.RowKit
set_option maxRecDepth 10000

abbrev hCells (h : Hst) : Array Value := (hstCells h).toArray
theorem allH (w : World) : (Instr.alloc 26 true (Value.tuple #[])).run Tryz.prog w = .ok (.pointer (some ⟨w.heap.size, 0, none⟩)) (w.alloc (.cells (hCells H0) 26)) := by kernel_rfl
theorem bldH0 : ∀ w, (Instr.build 26 #[]).run Tryz.prog w = .ok (.agg (hCells H0)) w := fun w => by kernel_rfl
theorem bldH1 : ∀ w, (Instr.build 26 #[(0, .int .i64 1)]).run Tryz.prog w = .ok (.agg (hCells { H0 with kind := 1 })) w := fun w => by kernel_rfl
theorem bldH2 (n : Bytes) : ∀ w, (Instr.build 26 #[(0, .int .i64 2), (1, .string (bs n))]).run Tryz.prog w = .ok (.agg (hCells { H0 with kind := 2, name := n })) w := fun w => by kernel_rfl
theorem bldH5 (n : Bytes) : ∀ w, (Instr.build 26 #[(0, .int .i64 5), (1, .string (bs n))]).run Tryz.prog w = .ok (.agg (hCells { H0 with kind := 5, name := n })) w := fun w => by kernel_rfl
theorem bldH3 (v : Int) : ∀ w, (Instr.build 26 #[(0, .int .i64 3), (2, .int .u32 v)]).run Tryz.prog w = .ok (.agg (hCells { H0 with kind := 3, four := v })) w := fun w => by kernel_rfl
theorem bldH4 (a : List Int) (h : a.length = 8) : ∀ w, (Instr.build 26 #[(0, .int .i64 4), (3, .agg (U16s a).toArray)]).run Tryz.prog w = .ok (.agg (hCells { H0 with kind := 4, six := a })) w := fun w => by
  obtain ⟨a, b, c, d, e, f, g, i, rfl⟩ := eight h
  kernel_rfl
theorem hsize (h : Hst) (hl : h.six.length = 8) : (Tryz.prog.info? 26).map (·.size) = some (hCells h).size := by
  rw [host_info]; simp [hstCells, hl]
theorem honec (h : Hst) : (hCells h).all (·.oneCell') = true := by
  rw [Array.all_eq_true]
  intro i hi
  have hm : (hCells h)[i] ∈ hstCells h := by simp
  simp only [hstCells, List.mem_cons, List.mem_map] at hm
  rcases hm with e | e | e | ⟨_, _, e⟩ <;> first | (rw [e]; rfl) | (rw [← e]; rfl)
/-- a host in block b -/
structure InB (w : World) (b : Nat) (h : Hst) (wr : World) : Prop where
  a : wr.heap[b]? = some (.cells (hCells h) 26 (0, 0))
  l : h.six.length = 8
  bel : Below w.heap.size w wr
theorem InB.lt {w : World} {b : Nat} {h : Hst} {wr : World} (i : InB w b h wr) : b < wr.heap.size := (Array.getElem?_eq_some_iff.1 i.a).1
theorem InB.below {w : World} {b : Nat} {h : Hst} {wr w2 : World} (i : InB w b h wr) (hb : w.heap.size ≤ b) (h2 : Below wr.heap.size wr w2) : InB w b h w2 := by
  have := i.lt
  exact ⟨(h2.block b (by omega)).trans i.a, i.l, i.bel.trans (h2.mono (by omega))⟩
theorem InB.alloc {w : World} {b : Nat} {h : Hst} {wr : World} (i : InB w b h wr) (o : Obj) (hb : w.heap.size ≤ b) : InB w b h (wr.alloc o) := i.below hb ((Below.refl _ wr).alloc (Nat.le_refl _) o)
theorem InB.put {w : World} {b : Nat} {h g : Hst} {wr : World} (i : InB w b h wr) (hb : w.heap.size ≤ b) (hl : g.six.length = 8) : InB w b g (wr.setRow b (hCells g)) :=
  ⟨setRow_heap wr b _ _ _ _ i.a, hl, below_setRow i.bel hb _⟩
theorem inB_fresh (w : World) : InB w w.heap.size H0 (w.alloc (.cells (hCells H0) 26)) := ⟨heap_alloc_new w _, rfl, (Below.refl _ w).alloc (Nat.le_refl _) _⟩
abbrev hostE (o : Option Hst) : Ending := .returned (.tuple #[.agg (hCells (o.getD H0)), .bool o.isSome])
theorem load_host (w : World) (b : Nat) (h : Hst) (i : w.heap[b]? = some (.cells (hCells h) 26 (0, 0))) (hl : h.six.length = 8) : (loadVar 26 ⟨b, 0, none⟩).run Tryz.prog w = .ok (.agg (hCells h)) w :=
  run_loadVar_row (P := Tryz.prog) w b 26 26 (hCells h) (0, 0) _ i Tryz.underlying26 rfl (hsize h hl)
/-- a store of a host into its block -/
theorem put_host {ops : Array Oper} {rest : List Oper} {o : Oper} {a : Act} {w : World} {Q : Exit → Act → World → Prop} (hgd : o.guard = none) (x y : Operand) (ho : o.op = .store 26 x y)
    (w0 : World) (b : Nat) (h g : Hst) (i : InB w0 b h w) (hb : w0.heap.size ≤ b) (hl : g.six.length = 8) (hx : a.eval x = .pointer (some ⟨b, 0, none⟩)) (hy : a.eval y = .agg (hCells g))
    (k : ∀ w', InB w0 b g w' → wpList Tryz.prog ops Q rest (a.put o.dst undef) w') : wpList Tryz.prog ops Q (o :: rest) a w := by
  refine wpList_store_row hgd _ x y ho b (hCells g) hx hy _ _ i.a (hsize g hl) ?_ (honec g) (k _ (i.put hb hl))
  simp [hstCells, i.l, hl]
/-- a build of two parts, and of one -/
theorem build2 {ops : Array Oper} {rest : List Oper} {o : Oper} {a : Act} {w : World} {Q : Exit → Act → World → Prop} (hgd : o.guard = none) (i j : Nat) (x y : Operand) (ho : o.op = .build 26 #[(i, x), (j, y)])
    (X Y v : Value) (hx : a.eval x = X) (hy : a.eval y = Y) (hr : ∀ w, (Instr.build 26 #[(i, X), (j, Y)]).run Tryz.prog w = .ok v w) (k : wpList Tryz.prog ops Q rest (a.put o.dst v) w) : wpList Tryz.prog ops Q (o :: rest) a w := by
  refine build_to hgd _ _ ho v #[(i, X), (j, Y)] ?_ hr k
  subst hx; subst hy
  simp
theorem build1 {ops : Array Oper} {rest : List Oper} {o : Oper} {a : Act} {w : World} {Q : Exit → Act → World → Prop} (hgd : o.guard = none) (i : Nat) (x : Operand) (ho : o.op = .build 26 #[(i, x)])
    (X v : Value) (hx : a.eval x = X) (hr : ∀ w, (Instr.build 26 #[(i, X)]).run Tryz.prog w = .ok v w) (k : wpList Tryz.prog ops Q rest (a.put o.dst v) w) : wpList Tryz.prog ops Q (o :: rest) a w := by
  refine build_to hgd _ _ ho v #[(i, X)] ?_ hr k
  subst hx
  simp
theorem cs_any (l m : Bytes) (w : World) (hl : l.length ≤ 1000000) : Calls Tryz.prog 39 #[.string (bs l), .string (bs m)] w fun e w' => e = .returned (.tuple #[S (Lib.trimSuffix l m), .bool (Lib.hasSuffix l m)]) ∧ w' = w := by
  have h := Any.strings_CutSuffix Tryz.laysCutS (bs l) (bs m) w (by rw [bs_size]; omega)
  rw [show (bs l).data.toList = l from ls_bs l, show (bs m).data.toList = m from ls_bs m] at h
  exact h
theorem trim_len (l m : Bytes) : (Lib.trimSuffix l m).length ≤ l.length := by
  unfold Lib.trimSuffix
  split
  · rw [List.length_take]; omega
  · exact Nat.le_refl _
theorem bres {tmps : Array Value} {w w2 : World} {b : Nat} {h : Hst} {q : Bool} (h2 : tmps.getD 2 undef = .pointer (some ⟨b, 0, none⟩)) (h3 : tmps.getD 3 undef = .bool q) (i : InB w b h w2) {R : Option Hst} (hR : h = R.getD H0) (hq : q = R.isSome) :
    bodyPost Tryz.prog Tryz.f22 (fun e w' => e = hostE R ∧ Below w.heap.size w w') Exit.ret { tmps := tmps, defers := [] } w2 := by
  have h2' : tmps[2]?.getD undef = .pointer (some ⟨b, 0, none⟩) := by simpa using h2
  have h3' : tmps[3]?.getD undef = .bool q := by simpa using h3
  have hl := load_host w2 b h i.a i.l
  refine bodyPost_ret (v := .tuple #[.agg (hCells h), .bool q]) ?_ rfl ⟨by rw [hR, hq], i.bel⟩
  simp [results, Tryz.results22, asAddr, h2', h3', hl]
set_option maxHeartbeats 8000000 in
theorem bracketed_any (l : Bytes) (w : World) (hl : l.length ≤ 1000000) (hE : Env w) : Calls Tryz.prog 22 #[.string (bs l)] w fun e w' => e = hostE (brF l) ∧ Below w.heap.size w w' := by
  have hcs := fun W => cs_any l [93] W hl
  rw [show bs [93] = ⟨#[93]⟩ from rfl] at hcs
  have htl := trim_len l [93]
  have hsx := fun W (h : Below w.heap.size w W) => sixparse_any (Lib.trimSuffix l [93]) W (by omega) (hE.below h)
  obtain ⟨R, hR⟩ : ∃ R, R = brF l := ⟨_, rfl⟩
  rw [← hR]
  unfold brF at hR
  have hrg := fun a (h : sixPF (Lib.trimSuffix l [93]) = some a) => (sixP_range h).1
  obtain ⟨T, hT⟩ : ∃ T, T = Lib.trimSuffix l [93] := ⟨_, rfl⟩
  rw [← hT] at hcs hsx hR hrg
  obtain ⟨q, hq⟩ : ∃ q, q = Lib.hasSuffix l [93] := ⟨_, rfl⟩
  rw [← hq] at hcs hR
  clear hT hq htl hE
  obtain ⟨s, hs⟩ : ∃ s, s = bs l := ⟨_, rfl⟩
  rw [← hs] at hcs ⊢
  clear hs hl
  have HCS := Lib.hid hcs; clear hcs
  have HI := Lib.hid (inB_fresh w)
  cases q with
  | false =>
    rw [if_neg (by simp)] at hR
    have HR := Lib.hid hR; clear hR hsx hrg
    go_enter Tryz.func22, Tryz.ntmps22
    go_wp2_with (first
      | (refine alloc_to rfl 26 rfl _ _ (allH _) ?_)
      | (go_at_call 39; refine (HCS.out _).mono ?_; rintro e w2 ⟨rfl, hw2⟩; subst hw2)
      | (refine build_to rfl 26 #[] rfl (.agg (hCells H0)) #[] rfl bldH0 ?_)
      | (refine put_host rfl (.tmp 2) (.tmp 15) rfl w w.heap.size _ H0 HI.out (Nat.le_refl _) rfl rfl rfl ?_; intro w3 i3; have HI3 := Lib.hid i3; clear i3)
      | fail)
    exact bres rfl rfl HI3.out (by rw [HR.out]; rfl) (by rw [HR.out]; rfl)
  | true =>
    rw [if_pos rfl] at hR
    cases hsix : sixPF T with
    | none =>
      rw [hsix] at hR hsx
      change ∀ W, Below w.heap.size w W → Calls _ _ _ W fun e w' => e = .returned (.tuple #[.agg (U16s Z8).toArray, .bool false]) ∧ Below W.heap.size W w' at hsx
      have HR := Lib.hid hR; clear hR hrg hsix
      have HSX := Lib.hid hsx; clear hsx
      go_enter Tryz.func22, Tryz.ntmps22
      go_wp2_with (first
        | (refine alloc_to rfl 26 rfl _ _ (allH _) ?_)
        | (go_at_call 39; refine (HCS.out _).mono ?_; rintro e w2 ⟨rfl, hw2⟩; subst hw2)
        | (go_at_call 40; refine (HSX.out _ HI.out.bel).mono ?_; rintro e w2 ⟨rfl, hb2⟩; have HI2 := Lib.hid (HI.out.below (Nat.le_refl _) hb2); clear hb2)
        | (refine alloc_to rfl 24 rfl _ _ (all8z _) ?_)
        | (refine store_new rfl 24 (.tmp 6) (.tmp 19) rfl (U16s Z8).toArray (U16s Z8).toArray _ rfl rfl (by rw [size8]; rfl) rfl (one8 _) ?_; have HI3 := Lib.hid (HI2.out.alloc (.cells (U16s Z8).toArray 24) (Nat.le_refl _)))
        | (refine build_to rfl 26 #[] rfl (.agg (hCells H0)) #[] rfl bldH0 ?_)
        | (refine put_host rfl (.tmp 2) (.tmp 23) rfl w w.heap.size _ H0 HI3.out (Nat.le_refl _) rfl rfl rfl ?_; intro w4 i4; have HI4 := Lib.hid i4; clear i4)
        | fail)
      exact bres rfl rfl HI4.out (by rw [HR.out]; rfl) (by rw [HR.out]; rfl)
    | some a =>
      rw [hsix] at hR hsx
      change ∀ W, Below w.heap.size w W → Calls _ _ _ W fun e w' => e = .returned (.tuple #[.agg (U16s a).toArray, .bool true]) ∧ Below W.heap.size W w' at hsx
      have ha := hrg a hsix
      have HA8 := Lib.hid ha
      have hbl := bldH4 a ha
      obtain ⟨G, hG⟩ : ∃ G : Hst, G = { H0 with kind := 4, six := a } := ⟨_, rfl⟩
      have hG8 : G.six.length = 8 := by rw [hG]; exact ha
      replace hR : R = some G := by rw [hR, hG]
      rw [← hG] at hbl
      clear hG
      have HG8 := Lib.hid hG8; clear hG8
      have HBL := Lib.hid hbl; clear hbl
      have HR := Lib.hid hR; clear hR hrg hsix ha
      have HSX := Lib.hid hsx; clear hsx
      obtain ⟨ca, hca⟩ : ∃ ca, ca = (U16s a).toArray := ⟨_, rfl⟩
      rw [← hca] at HSX HBL
      have h8 : ca.size = 8 := by rw [hca]; simp [HA8.out]
      have hon : ca.all (·.oneCell') = true := by rw [hca]; exact one8 a
      clear hca
      have HON := Lib.hid hon; clear hon
      go_enter Tryz.func22, Tryz.ntmps22
      go_wp2_with (first
        | (refine alloc_to rfl 26 rfl _ _ (allH _) ?_)
        | (go_at_call 39; refine (HCS.out _).mono ?_; rintro e w2 ⟨rfl, hw2⟩; subst hw2)
        | (go_at_call 40; refine (HSX.out _ HI.out.bel).mono ?_; rintro e w2 ⟨rfl, hb2⟩; have HI2 := Lib.hid (HI.out.below (Nat.le_refl _) hb2); clear hb2)
        | (refine alloc_to rfl 24 rfl _ _ (all8z _) ?_)
        | (refine store_new rfl 24 (.tmp 6) (.tmp 19) rfl ca (U16s Z8).toArray _ rfl rfl (by rw [size8, h8]) (by rw [h8]; rfl) HON.out ?_; have HI3 := Lib.hid (HI2.out.alloc (.cells ca 24) (Nat.le_refl _)))
        | (refine load_new rfl 24 (.tmp 6) rfl ca _ rfl _ Tryz.underlying24 rfl (by rw [size8, h8]) ?_)
        | (refine build2 rfl 0 3 (.const (.int .i64 4)) (.tmp 24) rfl (.int .i64 4) (.agg ca) (.agg (hCells G)) rfl rfl HBL.out ?_)
        | (refine put_host rfl (.tmp 2) (.tmp 25) rfl w w.heap.size _ G HI3.out (Nat.le_refl _) HG8.out rfl rfl ?_; intro w4 i4; have HI4 := Lib.hid i4; clear i4)
        | fail)
      exact bres rfl rfl HI4.out (by rw [HR.out]; rfl) (by rw [HR.out]; rfl)
end Go.Proofs.YtgfklkfbccknoaaGreatDoor

/- host.named. -/
namespace Go.Proofs.YtgfklkfbccknoaaGreatDoor
open Go.RowKit
set_option maxRecDepth 10000

theorem nres {tmps : Array Value} {w w2 : World} {b : Nat} {h : Hst} {q : Bool} (h2 : tmps.getD 2 undef = .pointer (some ⟨b, 0, none⟩)) (h3 : tmps.getD 3 undef = .bool q) (i : InB w b h w2) {R : Option Hst} (hR : h = R.getD H0) (hq : q = R.isSome) :
    bodyPost Tryz.prog Tryz.f23 (fun e w' => e = hostE R ∧ Below w.heap.size w w') Exit.ret { tmps := tmps, defers := [] } w2 := by
  have h2' : tmps[2]?.getD undef = .pointer (some ⟨b, 0, none⟩) := by simpa using h2
  have h3' : tmps[3]?.getD undef = .bool q := by simpa using h3
  have hl := load_host w2 b h i.a i.l
  refine bodyPost_ret (v := .tuple #[.agg (hCells h), .bool q]) ?_ rfl ⟨by rw [hR, hq], i.bel⟩
  simp [results, Tryz.results23, asAddr, h2', h3', hl]
theorem pdF_len : ∀ (n : Nat) (l : Bytes), l.length ≤ n → (pdF l).length ≤ l.length
  | 0, l, h => by
    obtain rfl : l = [] := List.eq_nil_of_length_eq_zero (by omega)
    simp [pdF]
  | n + 1, [], _ => by simp [pdF]
  | n + 1, [c], _ => by simp [pdF]
  | n + 1, [c, x], _ => by simp [pdF]
  | n + 1, c :: x :: y :: t, h => by
    rw [pdF]
    split
    · have := pdF_len n t (by simp at h; omega)
      simp; omega
    · have := pdF_len n (x :: y :: t) (by simp at h ⊢; omega)
      simp at this ⊢; omega
set_option maxHeartbeats 20000000 in
theorem named_any (l : Bytes) (w : World) (hl : l.length ≤ 300000) (ht : (toldF (signs (pdF l))).length ≤ 100000) (hn : ∀ n, domF (pdF l) = some n → n.length ≤ 100000) (hE : Env w) :
    Calls Tryz.prog 23 #[.string (bs l)] w fun e w' => e = hostE (nmF l) ∧ Below w.heap.size w w' := by
  have hpd := fun W => pdecode_any l W (by omega)
  have hpl := pdF_len _ l (Nat.le_refl _)
  have hdm := fun W (h : Below w.heap.size w W) => domain_any (pdF l) W (by omega) ht (hE.below h)
  obtain ⟨R, hR⟩ : ∃ R, R = nmF l := ⟨_, rfl⟩
  rw [← hR]
  unfold nmF at hR
  obtain ⟨D, hD⟩ : ∃ D, D = pdF l := ⟨_, rfl⟩
  rw [← hD] at hpd hdm hR hn
  clear hD hpl ht hl
  obtain ⟨s, hs⟩ : ∃ s, s = bs l := ⟨_, rfl⟩
  rw [← hs] at hpd ⊢
  clear hs
  have HPD := Lib.hid hpd; clear hpd
  have HEV := Lib.hid hE; clear hE
  have HI := Lib.hid (inB_fresh w)
  cases hd : domF D with
  | none =>
    rw [hd] at hR hdm
    have HR := Lib.hid (show R = none from hR); clear hR hn hd
    change ∀ W, Below w.heap.size w W → Calls _ _ _ W fun e w' => e = .returned (.tuple #[S [], .bool false]) ∧ Below W.heap.size W w' at hdm
    have HDM := Lib.hid hdm; clear hdm
    go_enter Tryz.func23, Tryz.ntmps23
    go_wp2_with (first
      | (refine alloc_to rfl 26 rfl _ _ (allH _) ?_)
      | (go_at_call 42; refine (HPD.out _).mono ?_; rintro e w2 ⟨v, rfl, ho2, hb2⟩; have HCV := Lib.hid (conv_own (P := Tryz.prog) (src := 37) (dst := 9) Tryz.underlying37 Tryz.underlying5 Tryz.underlying9 ho2); have hcv := HCV.out; clear ho2; have HI2 := Lib.hid (HI.out.below (Nat.le_refl _) hb2); clear hb2)
      | (go_at_call 41; refine (HDM.out _ HI2.out.bel).mono ?_; rintro e w3 ⟨rfl, hb3⟩; have HI3 := Lib.hid (HI2.out.below (Nat.le_refl _) hb3); clear hb3)
      | (refine build_to rfl 26 #[] rfl (.agg (hCells H0)) #[] rfl bldH0 ?_)
      | (refine put_host rfl (.tmp 2) (.tmp 22) rfl w w.heap.size _ H0 HI3.out (Nat.le_refl _) rfl rfl rfl ?_; intro w4 i4; have HI4 := Lib.hid i4; clear i4)
      | fail)
    exact nres rfl rfl HI4.out (by rw [HR.out]; rfl) (by rw [HR.out]; rfl)
  | some n =>
    rw [hd] at hR hdm
    have hnm := hn n hd
    replace hR : R = if n = [] then none else if n.any (fun x => nbF (b2 x)) = true then none else if endsF n = true then (match fparse n with | none => none | some v => some { H0 with kind := 3, four := v }) else some { H0 with kind := 2, name := n } := hR
    have hen := fun W (h : Below w.heap.size w W) => ends_any n W hnm (HEV.out.below h)
    have hfp := fun W (h : Below w.heap.size w W) => fparse_any n W hnm (HEV.out.below h)
    have hyes : ∀ k (hk : k < n.length), nbF (b2 n[k]) = true → (n.any fun x => nbF (b2 x)) = true := fun k hk h => any_yes (f := fun x => nbF (b2 x)) hk h
    have hno : (∀ k (hk : k < n.length), nbF (b2 n[k]) = false) → (n.any fun x => nbF (b2 x)) = false := fun h => any_at (f := fun x => nbF (b2 x)) h
    have hb2 := bldH2 n
    obtain ⟨G2, hG2⟩ : ∃ G : Hst, G = { H0 with kind := 2, name := n } := ⟨_, rfl⟩
    have hG28 : G2.six.length = 8 := by rw [hG2]; rfl
    rw [← hG2] at hb2 hR
    clear hG2
    obtain ⟨u, hu⟩ : ∃ u, u = bs n := ⟨_, rfl⟩
    change ∀ W, Below w.heap.size w W → Calls _ _ _ W fun e w' => e = .returned (.tuple #[.string (bs n), .bool true]) ∧ Below W.heap.size W w' at hdm
    rw [← hu] at hdm hen hfp hb2
    have hsz : u.size = n.length := by rw [hu, bs_size]
    have hby : ∀ k (hk : k < u.size) (hk2 : k < n.length), ((u[k]'hk).toNat : Int) = b2 n[k] := fun k hk hk2 => str_at hu hk hk2
    have hue : (u.toList = []) ↔ n = [] := by rw [hu, toList_bs]
    clear hu hn hd
    have HDM := Lib.hid hdm; clear hdm
    by_cases hnil : n = []
    · rw [if_pos hnil] at hR
      have he2 := hue.mpr hnil
      have he : u.toList.isEmpty = true := by rw [he2]; rfl
      have HR := Lib.hid hR; clear hR hen hfp hyes hno hb2 hby hue hnil hsz hG28
      go_enter Tryz.func23, Tryz.ntmps23
      go_wp2_with (first
      | (refine alloc_to rfl 26 rfl _ _ (allH _) ?_)
      | (go_at_call 42; refine (HPD.out _).mono ?_; rintro e w2 ⟨v, rfl, ho2, hb2⟩; have HCV := Lib.hid (conv_own (P := Tryz.prog) (src := 37) (dst := 9) Tryz.underlying37 Tryz.underlying5 Tryz.underlying9 ho2); have hcv := HCV.out; clear ho2; have HI2 := Lib.hid (HI.out.below (Nat.le_refl _) hb2); clear hb2)
      | (go_at_call 41; refine (HDM.out _ HI2.out.bel).mono ?_; rintro e w3 ⟨rfl, hb3⟩; have HI3 := Lib.hid (HI2.out.below (Nat.le_refl _) hb3); clear hb3)
      | (refine build_to rfl 26 #[] rfl (.agg (hCells H0)) #[] rfl bldH0 ?_)
      | (refine put_host rfl (.tmp 2) (.tmp 22) rfl w w.heap.size _ H0 HI3.out (Nat.le_refl _) rfl rfl rfl ?_; intro w4 i4; have HI4 := Lib.hid i4; clear i4)
      | fail)
      exact nres rfl rfl HI4.out (by rw [HR.out]; rfl) (by rw [HR.out]; rfl)
    rw [if_neg hnil] at hR
    have he2 : ¬ u.toList = [] := fun h => hnil (hue.mp h)
    have he : u.toList.isEmpty = false := by simpa using he2
    obtain ⟨N, hN⟩ : ∃ N, N = u.size := ⟨_, rfl⟩
    have hsN : u.size = N := hN.symm
    have hNm : N ≤ 100000 := by omega
    have HSZ := Lib.hid (show N = n.length by omega); clear hN hsz hnm hue hnil
    have HBY := Lib.hid hby; clear hby
    have HYES := Lib.hid hyes; clear hyes
    have HNO := Lib.hid hno; clear hno
    have HR := Lib.hid hR; clear hR
    have HEN := Lib.hid hen; clear hen
    have HFP := Lib.hid hfp; clear hfp
    have HB2 := Lib.hid hb2; clear hb2
    have HG28 := Lib.hid hG28; clear hG28
    go_enter Tryz.func23, Tryz.ntmps23
    go_wp2_with (first
      | (refine alloc_to rfl 26 rfl _ _ (allH _) ?_)
      | (go_at_call 42; refine (HPD.out _).mono ?_; rintro e w2 ⟨v, rfl, ho2, hb2⟩; have HCV := Lib.hid (conv_own (P := Tryz.prog) (src := 37) (dst := 9) Tryz.underlying37 Tryz.underlying5 Tryz.underlying9 ho2); have hcv := HCV.out; clear ho2; have HI2 := Lib.hid (HI.out.below (Nat.le_refl _) hb2); clear hb2)
      | (go_at_call 41; refine (HDM.out _ HI2.out.bel).mono ?_; rintro e w3 ⟨rfl, hb3⟩; have HI3 := Lib.hid (HI2.out.below (Nat.le_refl _) hb3); clear hb3)
      | fail)
    go_loopw [25] (fun iv wr => ∃ k : Nat, k ≤ N ∧ iv = .int .i64 k ∧ Hid (∀ j (hj : j < n.length), j < k → nbF (b2 n[j]) = false) ∧ w3 = wr) (fun i _ => N - (intOf i).toNat)
    case atStart => exact ⟨0, Nat.zero_le _, by simp, fun j _ h => absurd h (Nat.not_lt_zero j), rfl⟩
    case round =>
      obtain ⟨k, hk, rfl, hall, rfl⟩ := hrel
      by_cases hlt : k < N
      · have hku : k < u.size := by rw [hsN]; exact hlt
        have hkl : k < n.length := by have := HSZ.out; omega
        have hx := HBY.out k hku hkl
        have hy : nbF (b2 n[k]) = true → R = none := fun h => by rw [HR.out, if_pos (HYES.out k hkl h)]
        have hsn : nbF (b2 n[k]) = false → ∀ j (hj : j < n.length), j < k + 1 → nbF (b2 n[j]) = false := fun h j hj h1 => by
          rcases Nat.lt_or_ge j k with h2 | h2
          · exact hall.out j hj h2
          · obtain rfl : j = k := by omega
            exact h
        have hbd := fun W => bad_any (b2 n[k]) W
        generalize b2 n[k] = X at hx hy hsn hbd
        have HBD := Lib.hid hbd; clear hbd hall
        have hdef : nbF X = (badF X || decide (X < 32 ∨ X = 37 ∨ X = 127)) := rfl
        rw [hdef] at hy hsn
        clear hdef
        obtain ⟨q, hq⟩ : ∃ q, q = badF X := ⟨_, rfl⟩
        rw [← hq] at hy hsn HBD
        have HQ := Lib.hid hq; clear hq
        cases q with
        | true =>
          have HF := Lib.hid (hy rfl); clear hy hsn
          go_wp2_with (first
            | (go_at_call 15; refine (HBD.out _).mono ?_; rintro e w4 ⟨rfl, hw4⟩; subst hw4)
            | (refine build_to rfl 26 #[] rfl (.agg (hCells H0)) #[] rfl bldH0 ?_)
            | (refine put_host rfl (.tmp 2) (.tmp 45) rfl w w.heap.size _ H0 HI3.out (Nat.le_refl _) rfl rfl rfl ?_; intro w5 i5; have HI5 := Lib.hid i5; clear i5)
            | fail)
          exact nres rfl rfl HI5.out (by rw [HF.out]; rfl) (by rw [HF.out]; rfl)
        | false =>
          by_cases h1 : X < 32
          · have HF := Lib.hid (hy (by simp [h1])); clear hy hsn
            go_wp2_with (first
              | (go_at_call 15; refine (HBD.out _).mono ?_; rintro e w4 ⟨rfl, hw4⟩; subst hw4)
              | (refine build_to rfl 26 #[] rfl (.agg (hCells H0)) #[] rfl bldH0 ?_)
              | (refine put_host rfl (.tmp 2) (.tmp 45) rfl w w.heap.size _ H0 HI3.out (Nat.le_refl _) rfl rfl rfl ?_; intro w5 i5; have HI5 := Lib.hid i5; clear i5)
              | fail)
            exact nres rfl rfl HI5.out (by rw [HF.out]; rfl) (by rw [HF.out]; rfl)
          · by_cases h2 : X = 37
            · have HF := Lib.hid (hy (by simp [h2])); clear hy hsn
              subst h2
              go_wp2_with (first
                | (go_at_call 15; refine (HBD.out _).mono ?_; rintro e w4 ⟨rfl, hw4⟩; subst hw4)
                | (refine build_to rfl 26 #[] rfl (.agg (hCells H0)) #[] rfl bldH0 ?_)
                | (refine put_host rfl (.tmp 2) (.tmp 45) rfl w w.heap.size _ H0 HI3.out (Nat.le_refl _) rfl rfl rfl ?_; intro w5 i5; have HI5 := Lib.hid i5; clear i5)
                | fail)
              exact nres rfl rfl HI5.out (by rw [HF.out]; rfl) (by rw [HF.out]; rfl)
            · have q2 : (X == 37) = false := by simpa using h2
              by_cases h3 : X = 127
              · have HF := Lib.hid (hy (by simp [h3])); clear hy hsn
                subst h3
                go_wp2_with (first
                  | (go_at_call 15; refine (HBD.out _).mono ?_; rintro e w4 ⟨rfl, hw4⟩; subst hw4)
                  | (refine build_to rfl 26 #[] rfl (.agg (hCells H0)) #[] rfl bldH0 ?_)
                  | (refine put_host rfl (.tmp 2) (.tmp 45) rfl w w.heap.size _ H0 HI3.out (Nat.le_refl _) rfl rfl rfl ?_; intro w5 i5; have HI5 := Lib.hid i5; clear i5)
                  | fail)
                exact nres rfl rfl HI5.out (by rw [HF.out]; rfl) (by rw [HF.out]; rfl)
              · have q3 : (X == 127) = false := by simpa using h3
                have HS := Lib.hid (hsn (by simp [h1, h2, h3])); clear hy hsn
                go_wp2_with (first
                  | (go_at_call 15; refine (HBD.out _).mono ?_; rintro e w4 ⟨rfl, hw4⟩; subst hw4)
                  | fail)
                go_roundw
                case rel => exact ⟨k + 1, by omega, by simp, HS.out, by trivial⟩
                case measure => simp [intOf]; omega
      · obtain rfl : k = N := by omega
        have hr := HR.out
        rw [if_neg (by rw [HNO.out (fun j hj => hall.out j hj (by have := HSZ.out; omega))]; simp)] at hr
        clear HR
        cases hef : endsF n with
        | false =>
          rw [hef, if_neg (by simp)] at hr
          rw [hef] at HEN
          have HR := Lib.hid hr; clear hr hef hall
          go_wp2_with (first
            | (go_at_call 43; refine (HEN.out _ HI3.out.bel).mono ?_; rintro e w4 ⟨rfl, hb4⟩; have HI4 := Lib.hid (HI3.out.below (Nat.le_refl _) hb4); clear hb4)
            | (refine build2 rfl 0 1 (.const (.int .i64 2)) (.tmp 50) rfl (.int .i64 2) (.string u) (.agg (hCells G2)) rfl rfl HB2.out ?_)
            | (refine put_host rfl (.tmp 2) (.tmp 51) rfl w w.heap.size _ G2 HI4.out (Nat.le_refl _) HG28.out rfl rfl ?_; intro w5 i5; have HI5 := Lib.hid i5; clear i5)
            | fail)
          exact nres rfl rfl HI5.out (by rw [HR.out]; rfl) (by rw [HR.out]; rfl)
        | true =>
          rw [hef, if_pos rfl] at hr
          rw [hef] at HEN
          cases hfq : fparse n with
          | none =>
            rw [hfq] at hr HFP
            have HR := Lib.hid (show R = none from hr); clear hr hef hall hfq
            replace HFP := Lib.hid (show ∀ W, Below w.heap.size w W → Calls Tryz.prog 44 #[.string u] W fun e w' => e = .returned (.tuple #[.int .u32 0, .bool false]) ∧ Below W.heap.size W w' from HFP.out)
            go_wp2_with (first
              | (go_at_call 43; refine (HEN.out _ HI3.out.bel).mono ?_; rintro e w4 ⟨rfl, hb4⟩; have HI4 := Lib.hid (HI3.out.below (Nat.le_refl _) hb4); clear hb4)
              | (go_at_call 44; refine (HFP.out _ HI4.out.bel).mono ?_; rintro e w5 ⟨rfl, hb5⟩; have HI5 := Lib.hid (HI4.out.below (Nat.le_refl _) hb5); clear hb5)
              | (refine build_to rfl 26 #[] rfl (.agg (hCells H0)) #[] rfl bldH0 ?_)
              | (refine put_host rfl (.tmp 2) (.tmp 59) rfl w w.heap.size _ H0 HI5.out (Nat.le_refl _) rfl rfl rfl ?_; intro w6 i6; have HI6 := Lib.hid i6; clear i6)
              | fail)
            exact nres rfl rfl HI6.out (by rw [HR.out]; rfl) (by rw [HR.out]; rfl)
          | some v =>
            rw [hfq] at hr HFP
            have hb3 := bldH3 v
            obtain ⟨G3, hG3⟩ : ∃ G : Hst, G = { H0 with kind := 3, four := v } := ⟨_, rfl⟩
            have hG38 : G3.six.length = 8 := by rw [hG3]; rfl
            replace hr : R = some G3 := by rw [hr, hG3]
            rw [← hG3] at hb3
            clear hG3
            have HB3 := Lib.hid hb3; clear hb3
            have HG38 := Lib.hid hG38; clear hG38
            have HR := Lib.hid hr; clear hr hef hall hfq
            replace HFP := Lib.hid (show ∀ W, Below w.heap.size w W → Calls Tryz.prog 44 #[.string u] W fun e w' => e = .returned (.tuple #[.int .u32 v, .bool true]) ∧ Below W.heap.size W w' from HFP.out)
            go_wp2_with (first
              | (go_at_call 43; refine (HEN.out _ HI3.out.bel).mono ?_; rintro e w4 ⟨rfl, hb4⟩; have HI4 := Lib.hid (HI3.out.below (Nat.le_refl _) hb4); clear hb4)
              | (go_at_call 44; refine (HFP.out _ HI4.out.bel).mono ?_; rintro e w5 ⟨rfl, hb5⟩; have HI5 := Lib.hid (HI4.out.below (Nat.le_refl _) hb5); clear hb5)
              | (refine build2 rfl 0 2 (.const (.int .i64 3)) (.tmp 60) rfl (.int .i64 3) (.int .u32 v) (.agg (hCells G3)) rfl rfl HB3.out ?_)
              | (refine put_host rfl (.tmp 2) (.tmp 61) rfl w w.heap.size _ G3 HI5.out (Nat.le_refl _) HG38.out rfl rfl ?_; intro w6 i6; have HI6 := Lib.hid i6; clear i6)
              | fail)
            exact nres rfl rfl HI6.out (by rw [HR.out]; rfl) (by rw [HR.out]; rfl)
end Go.Proofs.YtgfklkfbccknoaaGreatDoor

/- host.Parse. -/
namespace Go.Proofs.YtgfklkfbccknoaaGreatDoor
open Go.RowKit
set_option maxRecDepth 10000

theorem pres {tmps : Array Value} {w w2 : World} {b : Nat} {h : Hst} {q : Bool} (h2 : tmps.getD 4 undef = .pointer (some ⟨b, 0, none⟩)) (h3 : tmps.getD 5 undef = .bool q) (i : InB w b h w2) {R : Option Hst} (hR : h = R.getD H0) (hq : q = R.isSome) :
    bodyPost Tryz.prog Tryz.f11 (fun e w' => e = hostE R ∧ Below w.heap.size w w') Exit.ret { tmps := tmps, defers := [] } w2 := by
  have h2' : tmps[4]?.getD undef = .pointer (some ⟨b, 0, none⟩) := by simpa using h2
  have h3' : tmps[5]?.getD undef = .bool q := by simpa using h3
  have hl := load_host w2 b h i.a i.l
  refine bodyPost_ret (v := .tuple #[.agg (hCells h), .bool q]) ?_ rfl ⟨by rw [hR, hq], i.bel⟩
  simp [results, Tryz.results11, asAddr, h2', h3', hl]
theorem brF_six {s : Bytes} : ((brF s).getD H0).six.length = 8 := by
  unfold brF
  split
  · cases h : sixPF (Lib.trimSuffix s [93]) with
    | none => rfl
    | some a => exact (sixP_range h).1
  · rfl
theorem nmF_six {s : Bytes} : ((nmF s).getD H0).six.length = 8 := by
  unfold nmF
  split
  · rfl
  · split
    · rfl
    · split
      · rfl
      · split
        · split <;> rfl
        · rfl
theorem hp91 (l : Bytes) : Lib.hasPrefix l [91] = decide (l.head? = some 91) := by
  cases l with
  | nil => rfl
  | cons x r =>
    show ((91 == x) && true) = _
    rw [Bool.and_true, Bool.eq_iff_iff]
    simp only [beq_iff_eq, List.head?_cons, Option.some.injEq, decide_eq_true_eq]
    exact eq_comm
/-- what a text must keep to be read here: how long a name may be -/
structure Short (l : Bytes) : Prop where
  sl : l.length ≤ 300000
  st : (toldF (signs (pdF l))).length ≤ 100000
  sn : ∀ n, domF (pdF l) = some n → n.length ≤ 100000
theorem short_of {l : Bytes} (h : l.length ≤ 1000) : Short l := by
  have h1 := pdF_len _ l (Nat.le_refl _)
  have h2 := told_len (signs (pdF l))
  have h3 := signs_len _ (pdF l) (Nat.le_refl _)
  exact ⟨by omega, by omega, fun n hn => by have := dom_len2 hn; omega⟩
set_option maxHeartbeats 20000000 in
theorem hparse_any (l : Bytes) (sp : Bool) (w : World) (hS : Short l) (hE : Env w) : Calls Tryz.prog 11 #[.string (bs l), .bool sp] w fun e w' => e = hostE (hostP l sp) ∧ Below w.heap.size w w' := by
  obtain ⟨hl, hst, hsn⟩ := hS
  have hhp := fun W => hp_any l [91] W
  rw [show bs [91] = ⟨#[91]⟩ from rfl, hp91] at hhp
  have hbr := fun W (h : Below w.heap.size w W) => bracketed_any (l.drop 1) W (by rw [List.length_drop]; omega) (hE.below h)
  have hnm := fun W (h : Below w.heap.size w W) => named_any l W hl hst hsn (hE.below h)
  have hpe := fun W => pencode_any 0 l W (by omega)
  obtain ⟨R, hR⟩ : ∃ R, R = hostP l sp := ⟨_, rfl⟩
  rw [← hR]
  unfold hostP at hR
  have hyes : ∀ k (hk : k < l.length), badF (b2 l[k]) = true → (l.any fun x => badF (b2 x)) = true := fun k hk h => any_yes (f := fun x => badF (b2 x)) hk h
  have hno : (∀ k (hk : k < l.length), badF (b2 l[k]) = false) → (l.any fun x => badF (b2 x)) = false := fun h => any_at (f := fun x => badF (b2 x)) h
  obtain ⟨s, hs⟩ : ∃ s, s = bs l := ⟨_, rfl⟩
  have hsz : s.size = l.length := by rw [hs, bs_size]
  have hby : ∀ k (hk : k < s.size) (hk2 : k < l.length), ((s[k]'hk).toNat : Int) = b2 l[k] := fun k hk hk2 => str_at hs hk hk2
  have hue : (s.toList = []) ↔ l = [] := by rw [hs, toList_bs]
  have hex : s.extract 1 s.size = bs (l.drop 1) := by rw [hs, bs_extract, bs_size, List.take_of_length_le (by rw [List.length_drop]; omega)]
  rw [← hs] at hhp hnm hpe ⊢
  clear hs hst hsn hE
  obtain ⟨N, hN⟩ : ∃ N, N = s.size := ⟨_, rfl⟩
  have hsN : s.size = N := hN.symm
  rw [hsN] at hex
  have hNm : N ≤ 300000 := by omega
  have hNl : N = l.length := by omega
  clear hN hsz hl
  have HI := Lib.hid (inB_fresh w)
  by_cases h91 : l.head? = some 91
  · rw [if_pos h91] at hR
    rw [decide_eq_true h91] at hhp
    have hN1 : 1 ≤ N := by
      cases l with
      | nil => cases h91
      | cons x r => rw [hNl]; simp
    obtain ⟨u, hu⟩ : ∃ u, u = bs (l.drop 1) := ⟨_, rfl⟩
    rw [← hu] at hex hbr
    have HG8 := Lib.hid (brF_six (s := l.drop 1))
    obtain ⟨B, hB⟩ : ∃ B, B = brF (l.drop 1) := ⟨_, rfl⟩
    rw [← hB] at hR hbr HG8
    clear hB hu h91 hnm hpe hyes hno hby hue hNl
    obtain ⟨G, hG⟩ : ∃ G, G = B.getD H0 := ⟨_, rfl⟩
    obtain ⟨q, hq⟩ : ∃ q, q = B.isSome := ⟨_, rfl⟩
    have HBR := Lib.hid (show ∀ W, Below w.heap.size w W → Calls Tryz.prog 22 #[.string u] W fun e w' => e = .returned (.tuple #[.agg (hCells G), .bool q]) ∧ Below W.heap.size W w' from by rw [hG, hq]; exact hbr)
    rw [← hG] at HG8
    have HR := Lib.hid (show G = R.getD H0 ∧ q = R.isSome by rw [hR]; exact ⟨hG, hq⟩)
    have HHP := Lib.hid hhp
    clear hhp hbr hR hG hq
    go_enter Tryz.func11, Tryz.ntmps11
    go_wp2_with (first
      | (refine alloc_to rfl 26 rfl _ _ (allH _) ?_)
      | (go_at_call 21; refine (HHP.out _).mono ?_; rintro e w2 ⟨rfl, hw2⟩; subst hw2)
      | (go_at_call 22; refine (HBR.out _ HI.out.bel).mono ?_; rintro e w2 ⟨rfl, hb2⟩; have HI2 := Lib.hid (HI.out.below (Nat.le_refl _) hb2); clear hb2)
      | (refine put_host rfl (.tmp 4) (.tmp 12) rfl w w.heap.size _ G HI2.out (Nat.le_refl _) HG8.out rfl rfl ?_; intro w4 i4; have HI4 := Lib.hid i4; clear i4)
      | fail)
    exact pres rfl rfl HI4.out HR.out.1 HR.out.2
  rw [if_neg h91] at hR
  rw [decide_eq_false h91] at hhp
  have HHP := Lib.hid hhp
  clear hhp hbr hex h91
  cases sp with
  | true =>
    rw [if_pos rfl] at hR
    have HG8 := Lib.hid (nmF_six (s := l))
    obtain ⟨B, hB⟩ : ∃ B, B = nmF l := ⟨_, rfl⟩
    rw [← hB] at hR hnm HG8
    clear hB hpe hyes hno hby hue hNl
    obtain ⟨G, hG⟩ : ∃ G, G = B.getD H0 := ⟨_, rfl⟩
    obtain ⟨q, hq⟩ : ∃ q, q = B.isSome := ⟨_, rfl⟩
    have HNM := Lib.hid (show ∀ W, Below w.heap.size w W → Calls Tryz.prog 23 #[.string s] W fun e w' => e = .returned (.tuple #[.agg (hCells G), .bool q]) ∧ Below W.heap.size W w' from by rw [hG, hq]; exact hnm)
    rw [← hG] at HG8
    have HR := Lib.hid (show G = R.getD H0 ∧ q = R.isSome by rw [hR]; exact ⟨hG, hq⟩)
    clear hnm hR hG hq
    go_enter Tryz.func11, Tryz.ntmps11
    go_wp2_with (first
      | (refine alloc_to rfl 26 rfl _ _ (allH _) ?_)
      | (go_at_call 21; refine (HHP.out _).mono ?_; rintro e w2 ⟨rfl, hw2⟩; subst hw2)
      | (go_at_call 23; refine (HNM.out _ HI.out.bel).mono ?_; rintro e w2 ⟨rfl, hb2⟩; have HI2 := Lib.hid (HI.out.below (Nat.le_refl _) hb2); clear hb2)
      | (refine put_host rfl (.tmp 4) (.tmp 17) rfl w w.heap.size _ G HI2.out (Nat.le_refl _) HG8.out rfl rfl ?_; intro w4 i4; have HI4 := Lib.hid i4; clear i4)
      | fail)
    exact pres rfl rfl HI4.out HR.out.1 HR.out.2
  | false =>
    rw [if_neg (by simp)] at hR
    clear hnm
    by_cases hnil : l = []
    · rw [if_pos hnil] at hR
      have he2 := hue.mpr hnil
      have he : s.toList.isEmpty = true := by rw [he2]; rfl
      have HR := Lib.hid hR; clear hR hpe hyes hno hby hue hnil hNl
      go_enter Tryz.func11, Tryz.ntmps11
      go_wp2_with (first
        | (refine alloc_to rfl 26 rfl _ _ (allH _) ?_)
        | (go_at_call 21; refine (HHP.out _).mono ?_; rintro e w2 ⟨rfl, hw2⟩; subst hw2)
        | (refine build1 rfl 0 (.const (.int .i64 1)) rfl (.int .i64 1) (.agg (hCells { H0 with kind := 1 })) rfl bldH1 ?_)
        | (refine put_host rfl (.tmp 4) (.tmp 21) rfl w w.heap.size _ { H0 with kind := 1 } HI.out (Nat.le_refl _) rfl rfl rfl ?_; intro w4 i4; have HI4 := Lib.hid i4; clear i4)
        | fail)
      exact pres rfl rfl HI4.out (by rw [HR.out]; rfl) (by rw [HR.out]; rfl)
    rw [if_neg hnil] at hR
    have he2 : ¬ s.toList = [] := fun h => hnil (hue.mp h)
    have he : s.toList.isEmpty = false := by simpa using he2
    have hb5 := bldH5 (pcB 0 l)
    obtain ⟨G5, hG5⟩ : ∃ G : Hst, G = { H0 with kind := 5, name := pcB 0 l } := ⟨_, rfl⟩
    have hG58 : G5.six.length = 8 := by rw [hG5]; rfl
    rw [← hG5] at hb5 hR
    obtain ⟨c, hc⟩ : ∃ c, c = bs (pcB 0 l) := ⟨_, rfl⟩
    have HPE := Lib.hid (show ∀ W, Calls Tryz.prog 19 #[.string s, .int .i64 0] W fun e w' => e = .returned (.string c) ∧ Below W.heap.size W w' from by rw [hc]; exact hpe)
    rw [← hc] at hb5
    clear hG5 hpe hc hue hnil
    have HSZ := Lib.hid hNl; clear hNl
    have HBY := Lib.hid hby; clear hby
    have HYES := Lib.hid hyes; clear hyes
    have HNO := Lib.hid hno; clear hno
    have HR := Lib.hid hR; clear hR
    have HB5 := Lib.hid hb5; clear hb5
    have HG58 := Lib.hid hG58; clear hG58
    go_enter Tryz.func11, Tryz.ntmps11
    go_wp2_with (first
      | (refine alloc_to rfl 26 rfl _ _ (allH _) ?_)
      | (go_at_call 21; refine (HHP.out _).mono ?_; rintro e w2 ⟨rfl, hw2⟩; subst hw2)
      | fail)
    go_loopw [24] (fun iv wr => ∃ k : Nat, k ≤ N ∧ iv = .int .i64 k ∧ Hid (∀ j (hj : j < l.length), j < k → badF (b2 l[j]) = false) ∧ wr = w.alloc (.cells (hCells H0) 26)) (fun i _ => N - (intOf i).toNat)
    case atStart => exact ⟨0, Nat.zero_le _, by simp, fun j _ h => absurd h (Nat.not_lt_zero j), rfl⟩
    case round =>
      obtain ⟨k, hk, rfl, hall, rfl⟩ := hrel
      by_cases hlt : k < N
      · have hku : k < s.size := by rw [hsN]; exact hlt
        have hkl : k < l.length := by have := HSZ.out; omega
        have hx := HBY.out k hku hkl
        have hy : badF (b2 l[k]) = true → R = none := fun h => by rw [HR.out, if_pos (HYES.out k hkl h)]
        have hsn : badF (b2 l[k]) = false → ∀ j (hj : j < l.length), j < k + 1 → badF (b2 l[j]) = false := fun h j hj h1 => by
          rcases Nat.lt_or_ge j k with h2 | h2
          · exact hall.out j hj h2
          · obtain rfl : j = k := by omega
            exact h
        have hbd := fun W => bad_any (b2 l[k]) W
        generalize b2 l[k] = X at hx hy hsn hbd
        have HBD := Lib.hid hbd; clear hbd hall
        cases hq : badF X with
        | true =>
          have HF := Lib.hid (hy hq)
          rw [hq] at HBD
          clear hy hsn hq
          go_wp2_with (first
            | (go_at_call 15; refine (HBD.out _).mono ?_; rintro e w4 ⟨rfl, hw4⟩; subst hw4)
            | (refine build_to rfl 26 #[] rfl (.agg (hCells H0)) #[] rfl bldH0 ?_)
            | (refine put_host rfl (.tmp 4) (.tmp 31) rfl w w.heap.size _ H0 HI.out (Nat.le_refl _) rfl rfl rfl ?_; intro w5 i5; have HI5 := Lib.hid i5; clear i5)
            | fail)
          exact pres rfl rfl HI5.out (by rw [HF.out]; rfl) (by rw [HF.out]; rfl)
        | false =>
          have HS := Lib.hid (hsn hq)
          rw [hq] at HBD
          clear hy hsn hq
          go_wp2_with (first
            | (go_at_call 15; refine (HBD.out _).mono ?_; rintro e w4 ⟨rfl, hw4⟩; subst hw4)
            | fail)
          go_roundw
          case rel => exact ⟨k + 1, by omega, by simp, HS.out, by first | rfl | trivial⟩
          case measure => simp [intOf]; omega
      · obtain rfl : k = N := by omega
        have hr := HR.out
        rw [if_neg (by rw [HNO.out (fun j hj => hall.out j hj (by have := HSZ.out; omega))]; simp)] at hr
        have HR := Lib.hid hr; clear hr hall
        go_wp2_with (first
          | (go_at_call 19; refine (HPE.out _).mono ?_; rintro e w4 ⟨rfl, hb4⟩; have HI4 := Lib.hid (HI.out.below (Nat.le_refl _) hb4); clear hb4)
          | (refine build2 rfl 0 1 (.const (.int .i64 5)) (.tmp 34) rfl (.int .i64 5) (.string c) (.agg (hCells G5)) rfl rfl HB5.out ?_)
          | (refine put_host rfl (.tmp 4) (.tmp 35) rfl w w.heap.size _ G5 HI4.out (Nat.le_refl _) HG58.out rfl rfl ?_; intro w5 i5; have HI5 := Lib.hid i5; clear i5)
          | fail)
        exact pres rfl rfl HI5.out (by rw [HR.out]; rfl) (by rw [HR.out]; rfl)
end Go.Proofs.YtgfklkfbccknoaaGreatDoor

/- Plain laws of hosts: what comes of dots and digits; what is kept. -/
namespace Go.Proofs.YtgfklkfbccknoaaGreatDoor
open Go.RowKit
set_option maxRecDepth 10000

/-- a text of fine pieces stands as it is -/
theorem dom_fine {t : Bytes} (hf : ∀ p ∈ cutD t, Fine p) : domF t = some t := by
  have hbytes : ∀ y ∈ t, b2 y < 0x80 ∧ ¬ (65 ≤ b2 y ∧ b2 y ≤ 90) := by
    have key : ∀ (p : Bytes) (ps : List Bytes), (∀ q ∈ p :: ps, Fine q) → ∀ y ∈ joinD (p :: ps), b2 y < 0x80 ∧ ¬ (65 ≤ b2 y ∧ b2 y ≤ 90) := by
      intro p ps
      induction ps generalizing p with
      | nil =>
        intro hf y hy
        unfold joinD at hy
        rw [Lib.join_one] at hy
        have := (hf p (by simp)).1 y hy
        exact ⟨this.1, this.2.1⟩
      | cons q qs ih =>
        intro hf y hy
        rw [joinD_cons] at hy
        rcases List.mem_append.mp hy with hy | hy
        · have := (hf p (by simp)).1 y hy
          exact ⟨this.1, this.2.1⟩
        · rcases List.mem_cons.mp hy with rfl | hy
          · decide
          · exact ih q (fun z hz => hf z (by simp only [List.mem_cons] at hz ⊢; exact .inr hz)) y hy
    obtain ⟨p, ps, hp⟩ := cutD_ne t
    have hj := join_cut t
    rw [hp] at hf hj
    rw [← hj]
    exact key p ps hf
  have hj := all_low_join (fun y hy => (hbytes y hy).1)
  have hmap : ∀ c ∈ t.map b2, mapF c = (enc c, 1) ∧ Utf8.valid c = true := by
    intro c hc
    obtain ⟨y, hy, rfl⟩ := List.mem_map.mp hc
    have h1 := hbytes y hy
    have h0 := b2_lt y
    exact ⟨map_low h0.1 h1.1 h1.2, (valid_iff _).mpr (by omega)⟩
  have hsg : signs t = t.map b2 := by
    conv => lhs; rw [hj]
    exact signs_join' (fun c hc => (hmap c hc).2)
  obtain ⟨t1, t2⟩ := told_same (m := t.map b2) (fun c hc => (hmap c hc).1)
  rw [← hj] at t1
  rw [dom_signs, hsg]
  unfold domS
  rw [if_pos t2, t1]
  have hout : (cutD t).map outP = cutD t := by
    conv => rhs; rw [← List.map_id (cutD t)]
    refine List.map_congr_left fun q hq => ?_
    unfold outP
    rw [(hf q hq).2]; rfl
  rw [if_pos, hout, join_cut]
  exact List.all_eq_true.mpr fun q hq => by unfold okP; rw [(hf q hq).2]; rfl

/-! digits -/
def d3F (u : Nat) : Bytes := if u < 10 then [UInt8.ofNat (48 + u)] else if u < 100 then [UInt8.ofNat (48 + u / 10), UInt8.ofNat (48 + u % 10)] else [UInt8.ofNat (48 + u / 100), UInt8.ofNat (48 + u / 10 % 10), UInt8.ofNat (48 + u % 10)]
theorem dec_d3 {u : Nat} (h : u < 256) : Lib.decDigits u = d3F u := by
  unfold d3F
  by_cases h1 : u < 10
  · rw [if_pos h1, Lib.decDigits_one h1]
  rw [if_neg h1]
  by_cases h2 : u < 100
  · rw [if_pos h2, Lib.decDigits_two h1 h2]
  rw [if_neg h2, Lib.decDigits, dif_neg h1, Lib.decDigits_two (by omega) (by omega), Nat.div_div_eq_div_mul]
  rfl
theorem d3_facts : ∀ k : Fin 256, numG 4294967296 (d3F k.val) = some (k.val : Int) ∧ d3F k.val ≠ [] ∧ (d3F k.val).length ≤ 3 ∧ (d3F k.val).all (fun y => decide (48 ≤ b2 y ∧ b2 y ≤ 57)) = true := by decide +kernel
theorem dec_facts {u : Nat} (h : u < 256) : numG 4294967296 (Lib.decDigits u) = some (u : Int) ∧ Lib.decDigits u ≠ [] ∧ (Lib.decDigits u).length ≤ 3 ∧ ∀ y ∈ Lib.decDigits u, 48 ≤ b2 y ∧ b2 y ≤ 57 := by
  rw [dec_d3 h]
  obtain ⟨a, b, c, d⟩ := d3_facts ⟨u, h⟩
  exact ⟨a, b, c, fun y hy => of_decide_eq_true (List.all_eq_true.mp d y hy)⟩
theorem dec_nodot {u : Nat} (h : u < 256) : (46 : UInt8) ∉ Lib.decDigits u := fun hm => by
  have := (dec_facts h).2.2.2 _ hm
  revert this; decide
theorem dec_fine {u : Nat} (h : u < 256) : Fine (Lib.decDigits u) := by
  obtain ⟨_, h2, h3, h4⟩ := dec_facts h
  refine ⟨fun y hy => ?_, wr_4 ?_ (low_of fun y hy => by have := h4 y hy; omega)⟩
  · have := h4 y hy
    exact ⟨by omega, by omega, fun e => dec_nodot h (e ▸ hy)⟩
  · unfold Lib.hasPrefix pre4
    match hd : Lib.decDigits u with
    | [] => rfl
    | y :: r =>
      have := h4 y (by rw [hd]; simp)
      have hne : ¬ (120 : UInt8) = y := fun e => by rw [← e] at this; revert this; decide
      simp [List.isPrefixOf, hne]
theorem four_cut {n : Nat} (hn : n < 4294967296) : cutC 46 (fourF n) = [Lib.decDigits (n / 16777216), Lib.decDigits (n / 65536 % 256), Lib.decDigits (n / 256 % 256), Lib.decDigits (n % 256)] := by
  unfold fourF
  simp only [List.append_assoc, List.cons_append, List.nil_append]
  rw [cutC_app, cutC_app, cutC_app, cutC_none (dec_nodot (by omega)), cutC_none (dec_nodot (by omega)), cutC_none (dec_nodot (by omega)), cutC_none (dec_nodot (by omega))]
  rfl
theorem four_parts {n : Nat} (hn : n < 4294967296) : partsF (fourF n) = [Lib.decDigits (n / 16777216), Lib.decDigits (n / 65536 % 256), Lib.decDigits (n / 256 % 256), Lib.decDigits (n % 256)] := by
  unfold partsF
  rw [four_cut hn, if_neg]
  rintro ⟨_, h⟩
  simp only [List.getLast?_cons_cons, List.getLast?_singleton, Option.some.injEq] at h
  exact (dec_facts (u := n % 256) (by omega)).2.1 h
theorem four_ends {n : Nat} (hn : n < 4294967296) : endsF (fourF n) = true := by
  unfold endsF
  have h : (partsF (fourF n)).getLast (parts_ne _) = Lib.decDigits (n % 256) := by
    simp only [four_parts hn]
    rfl
  rw [h]
  unfold lastF
  rw [(dec_facts (u := n % 256) (by omega)).1]
  rfl
theorem four_back {n : Nat} (hn : n < 4294967296) : fparse (fourF n) = some (n : Int) := by
  unfold fparse fpF
  rw [four_parts hn, if_neg (by simp)]
  unfold fpGo
  rw [(dec_facts (u := n / 16777216) (by omega)).1]
  dsimp only
  rw [if_neg (by omega)]
  unfold fpGo
  rw [(dec_facts (u := n / 65536 % 256) (by omega)).1]
  dsimp only
  rw [if_neg (by omega)]
  unfold fpGo
  rw [(dec_facts (u := n / 256 % 256) (by omega)).1]
  dsimp only
  rw [if_neg (by omega)]
  unfold fpGo
  rw [(dec_facts (u := n % 256) (by omega)).1]
  dsimp only
  simp only [room]
  rw [if_neg (by omega)]
  congr 1
  omega
theorem four_bytes {n : Nat} (hn : n < 4294967296) : ∀ y ∈ fourF n, b2 y = 46 ∨ (48 ≤ b2 y ∧ b2 y ≤ 57) := by
  intro y hy
  unfold fourF at hy
  have e : b2 46 = 46 := by decide
  simp only [List.mem_append, List.mem_singleton] at hy
  rcases hy with (((((h | rfl) | h) | rfl) | h) | rfl) | h
  · exact .inr ((dec_facts (by omega)).2.2.2 y h)
  · exact .inl e
  · exact .inr ((dec_facts (by omega)).2.2.2 y h)
  · exact .inl e
  · exact .inr ((dec_facts (by omega)).2.2.2 y h)
  · exact .inl e
  · exact .inr ((dec_facts (by omega)).2.2.2 y h)
theorem four_ne (n : Nat) : fourF n ≠ [] := by
  unfold fourF
  simp
theorem four_dom {n : Nat} (hn : n < 4294967296) : domF (fourF n) = some (fourF n) := by
  refine dom_fine fun p hp => ?_
  rw [← cutC_dot, four_cut hn] at hp
  simp only [List.mem_cons, List.not_mem_nil, or_false] at hp
  rcases hp with rfl | rfl | rfl | rfl <;> exact dec_fine (by omega)

/-! percents -/
theorem pd_none : ∀ {l : Bytes}, (∀ y ∈ l, b2 y ≠ 37) → pdF l = l
  | [], _ => rfl
  | [c], _ => rfl
  | [c, x], _ => rfl
  | c :: x :: y :: t, h => by
    rw [pdF, if_neg (fun a => h c (by simp) a.1), pd_none (fun z hz => h z (by simp only [List.mem_cons] at hz ⊢; exact .inr hz))]
/-- a byte that is no digit and no percent parts a text -/
theorem pd_mid {c : UInt8} (h37 : b2 c ≠ 37) (hd : dgt (b2 c) 16 < 0) (b : Bytes) : ∀ (n : Nat) (a : Bytes), a.length ≤ n → pdF (a ++ c :: b) = pdF a ++ c :: pdF b
  | n, [], _ => by
    have e : pdF (c :: b) = c :: pdF b := by
      match b with
      | [] => rfl
      | [x] => rfl
      | x :: y :: t => rw [pdF, if_neg (fun a => h37 a.1)]
    exact e
  | 0, _ :: _, h => by simp at h
  | n + 1, [p], _ => by
    have e : pdF (p :: c :: b) = p :: pdF (c :: b) := by
      match b with
      | [] => rfl
      | y :: t => rw [pdF, if_neg (fun a => by omega)]
    have := pd_mid h37 hd b n [] (by simp)
    rw [List.nil_append] at this
    show pdF (p :: c :: b) = _
    rw [e, this]; rfl
  | n + 1, [p, q], h => by
    have e : pdF (p :: q :: c :: b) = p :: pdF (q :: c :: b) := by rw [pdF, if_neg (fun a => by omega)]
    have := pd_mid h37 hd b n [q] (by simp at h ⊢; omega)
    show pdF (p :: q :: c :: b) = _
    rw [e]
    show p :: pdF ([q] ++ c :: b) = _
    rw [this]; rfl
  | n + 1, p :: q :: r :: t, h => by
    show pdF (p :: q :: r :: (t ++ c :: b)) = _
    rw [pdF, pdF]
    split
    · rw [pd_mid h37 hd b n t (by simp at h; omega)]; rfl
    · have := pd_mid h37 hd b n (q :: r :: t) (by simp at h ⊢; omega)
      show p :: pdF ((q :: r :: t) ++ c :: b) = _
      rw [this]; rfl
/-- so does a coded byte -/
theorem pd_code {x y : UInt8} (hx : 0 ≤ dgt (b2 x) 16) (hy : 0 ≤ dgt (b2 y) 16) (b : Bytes) : ∀ (n : Nat) (a : Bytes), a.length ≤ n → pdF (a ++ 37 :: x :: y :: b) = pdF a ++ UInt8.ofNat (pdV x y).toNat :: pdF b
  | n, [], _ => by
    show pdF (37 :: x :: y :: b) = _
    rw [pdF, if_pos ⟨by decide, hx, hy⟩]; rfl
  | 0, _ :: _, h => by simp at h
  | n + 1, [p], _ => by
    have h37 : dgt (b2 37) 16 < 0 := by decide
    have e : pdF (p :: 37 :: x :: y :: b) = p :: pdF (37 :: x :: y :: b) := by rw [pdF, if_neg (fun a => by omega)]
    have := pd_code hx hy b n [] (by simp)
    rw [List.nil_append] at this
    show pdF (p :: 37 :: x :: y :: b) = _
    rw [e, this]; rfl
  | n + 1, [p, q], h => by
    have h37 : dgt (b2 37) 16 < 0 := by decide
    have e : pdF (p :: q :: 37 :: x :: y :: b) = p :: pdF (q :: 37 :: x :: y :: b) := by rw [pdF, if_neg (fun a => by omega)]
    have := pd_code hx hy b n [q] (by simp at h ⊢; omega)
    show pdF (p :: q :: 37 :: x :: y :: b) = _
    rw [e]
    show p :: pdF ([q] ++ 37 :: x :: y :: b) = _
    rw [this]; rfl
  | n + 1, p :: q :: r :: t, h => by
    show pdF (p :: q :: r :: (t ++ 37 :: x :: y :: b)) = _
    rw [pdF, pdF]
    split
    · rw [pd_code hx hy b n t (by simp at h; omega)]; rfl
    · have := pd_code hx hy b n (q :: r :: t) (by simp at h ⊢; omega)
      show p :: pdF ((q :: r :: t) ++ 37 :: x :: y :: b) = _
      rw [this]; rfl
/-- each byte coded -/
theorem pd_all {f g : UInt8 → UInt8} (h : ∀ x, 0 ≤ dgt (b2 (f x)) 16 ∧ 0 ≤ dgt (b2 (g x)) 16 ∧ UInt8.ofNat (pdV (f x) (g x)).toNat = x) : ∀ l : Bytes, pdF (l.flatMap fun x => [37, f x, g x]) = l
  | [] => rfl
  | x :: r => by
    have e : ((x :: r).flatMap fun x => [37, f x, g x]) = 37 :: f x :: g x :: (r.flatMap fun x => [37, f x, g x]) := by simp
    rw [e, pdF, if_pos ⟨by decide, (h x).1, (h x).2.1⟩, pd_all h r, (h x).2.2]
theorem pc_same {set : Int} {l : Bytes} (h : ∀ y ∈ l, inF set (b2 y) = false) : pcB set l = l := by
  induction l with
  | nil => rfl
  | cons x r ih =>
    have e : pcB set (x :: r) = pcF set x ++ pcB set r := by unfold pcB; simp
    rw [e, ih (fun y hy => h y (by simp [hy]))]
    unfold pcF
    rw [if_neg (by rw [h x (by simp)]; simp)]
    rfl
theorem in0 (c : Int) : inF 0 c = ctlF c := by
  unfold inF
  rw [if_neg (by omega)]
  have : moreF 0 = [] := by unfold moreF; simp
  rw [this]
  unfold amF
  simp
theorem pc_facts : ∀ k : Fin 256, (pcF 0 (UInt8.ofNat k.val)).all (fun y => decide (31 < b2 y ∧ b2 y ≤ 126) && (badF (b2 (UInt8.ofNat k.val)) || !badF (b2 y))) = true := by decide +kernel
theorem pc_mem {l : Bytes} {y : UInt8} (h : y ∈ pcB 0 l) : (31 < b2 y ∧ b2 y ≤ 126) ∧ ∃ x ∈ l, badF (b2 x) = true ∨ badF (b2 y) = false := by
  obtain ⟨x, hx, hy⟩ := List.mem_flatMap.mp h
  have hf := pc_facts ⟨x.toNat, x.toNat_lt⟩
  simp only [UInt8.ofNat_toNat] at hf
  have := List.all_eq_true.mp hf y hy
  rw [Bool.and_eq_true, Bool.or_eq_true] at this
  refine ⟨of_decide_eq_true this.1, x, hx, ?_⟩
  rcases this.2 with h | h
  · exact .inl h
  · exact .inr (by simpa using h)
theorem pc_ne {l : Bytes} (h : l ≠ []) : pcB 0 l ≠ [] := by
  cases l with
  | nil => exact absurd rfl h
  | cons x r =>
    have e : pcB 0 (x :: r) = pcF 0 x ++ pcB 0 r := by unfold pcB; simp
    rw [e]
    unfold pcF
    split <;> simp
/-! what hosts there are -/
inductive HKind (s : Bytes) (sp : Bool) : Hst → Prop where
  | six (a : List Int) (h8 : a.length = 8) (ha : ∀ n ∈ a, 0 ≤ n ∧ n < 65536) (hs : s.head? = some 91) : HKind s sp { H0 with kind := 4, six := a }
  | name (n : Bytes) (e : sp = true) (hs : s.head? ≠ some 91) (hd : domF (pdF s) = some n) (hn : n ≠ []) (hb : ∀ y ∈ n, nbF (b2 y) = false) (he : endsF n = false) : HKind s sp { H0 with kind := 2, name := n }
  | four (n : Nat) (e : sp = true) (hs : s.head? ≠ some 91) (h : n < 4294967296) : HKind s sp { H0 with kind := 3, four := n }
  | empty (e : sp = false) (h : s = []) : HKind s sp { H0 with kind := 1 }
  | opaq (e : sp = false) (hs : s.head? ≠ some 91) (h : s ≠ []) (hb : ∀ y ∈ s, badF (b2 y) = false) : HKind s sp { H0 with kind := 5, name := pcB 0 s }
theorem any_no {α : Type} {f : α → Bool} {l : List α} (h : ¬ l.any f = true) : ∀ y ∈ l, f y = false := by
  have h2 : l.any f = false := by simpa using h
  intro y hy
  have := List.any_eq_false.mp h2 y hy
  simpa using this
theorem hkind {s : Bytes} {sp : Bool} {h : Hst} (e : hostP s sp = some h) : HKind s sp h := by
  unfold hostP at e
  by_cases h1 : s.head? = some 91
  · rw [if_pos h1] at e
    unfold brF at e
    split at e
    · cases hs : sixPF (Lib.trimSuffix (s.drop 1) [93]) with
      | none => rw [hs] at e; cases e
      | some a =>
        rw [hs] at e
        injection e with e
        subst e
        exact .six a (sixP_range hs).1 (sixP_range hs).2 h1
    · cases e
  rw [if_neg h1] at e
  cases sp with
  | true =>
    rw [if_pos rfl] at e
    unfold nmF at e
    cases hd : domF (pdF s) with
    | none => rw [hd] at e; cases e
    | some n =>
      rw [hd] at e
      dsimp only at e
      split at e
      · cases e
      next hn =>
      split at e
      · cases e
      next hb =>
      split at e
      · next he =>
        cases hf : fparse n with
        | none => rw [hf] at e; cases e
        | some v =>
          rw [hf] at e
          injection e with e
          subst e
          have hv := fparse_range hf
          obtain ⟨m, hm⟩ : ∃ m : Nat, v = m := ⟨v.toNat, by omega⟩
          subst hm
          exact .four m rfl h1 (by omega)
      · next he =>
        injection e with e
        subst e
        exact .name n rfl h1 hd hn (any_no hb) (by simpa using he)
  | false =>
    rw [if_neg (by simp)] at e
    split at e
    · next hn =>
      injection e with e
      subst e
      exact .empty rfl hn
    · next hn =>
      split at e
      · cases e
      · next hb =>
        injection e with e
        subst e
        exact .opaq rfl h1 hn (any_no hb)
/-! and back -/
theorem suf_snoc (q : Bytes) (x : UInt8) : Lib.hasSuffix (q ++ [x]) [93] = decide (x = 93) := by
  unfold Lib.hasSuffix
  rw [Bool.eq_iff_iff, List.isSuffixOf_iff_suffix, decide_eq_true_eq]
  constructor
  · rintro ⟨t, h⟩
    have := List.append_inj' h rfl
    injection this.2 with h1
    exact h1.symm
  · rintro rfl
    exact ⟨q, rfl⟩
theorem trim_snoc (q : Bytes) : Lib.trimSuffix (q ++ [93]) [93] = q := by
  unfold Lib.trimSuffix
  rw [suf_snoc, if_pos (by simp)]
  simp
theorem br_back {a : List Int} (h8 : a.length = 8) (ha : ∀ n ∈ a, 0 ≤ n ∧ n < 65536) (sp : Bool) : hostP ([91] ++ sixF a ++ [93]) sp = some { H0 with kind := 4, six := a } := by
  unfold hostP
  rw [if_pos (by rfl)]
  show brF (sixF a ++ [93]) = _
  unfold brF
  rw [suf_snoc, if_pos (by simp), trim_snoc, six_back a h8 ha]
theorem head_of {n : Bytes} (h : ∀ y ∈ n, badF (b2 y) = false) : n.head? ≠ some 91 := by
  intro e
  cases n with
  | nil => cases e
  | cons x r =>
    injection e with e
    have := h x (by simp)
    rw [e] at this
    revert this; decide
theorem nb_bad {c : Int} (h : nbF c = false) : badF c = false ∧ ¬ (c < 32 ∨ c = 37 ∨ c = 127) := by
  unfold nbF at h
  rw [Bool.or_eq_false_iff] at h
  exact ⟨h.1, of_decide_eq_false h.2⟩
theorem bad_not32 {c : Int} (h : badF c = false) : c ≠ 32 := fun e => by rw [e] at h; revert h; decide
theorem dig_nb {c : Int} (h : c = 46 ∨ (48 ≤ c ∧ c ≤ 57)) : nbF c = false := by
  unfold nbF badF
  rw [Bool.or_eq_false_iff]
  exact ⟨decide_eq_false (by omega), decide_eq_false (by omega)⟩
theorem any_all {α : Type} {f : α → Bool} {l : List α} (h : ∀ y ∈ l, f y = false) : ¬ l.any f = true := by
  rw [List.any_eq_true]
  rintro ⟨x, hx, e⟩
  rw [h x hx] at e; cases e
theorem name_back {n : Bytes} {b : Bytes} (hd : domF b = some n) (hn : n ≠ []) (hb : ∀ y ∈ n, nbF (b2 y) = false) (he : endsF n = false) : hostP n true = some { H0 with kind := 2, name := n } := by
  unfold hostP
  rw [if_neg (head_of fun y hy => (nb_bad (hb y hy)).1), if_pos rfl]
  unfold nmF
  rw [pd_none (fun y hy e => (nb_bad (hb y hy)).2 (by omega)), (dom_once hd).2]
  dsimp only
  rw [if_neg hn, if_neg (any_all hb), if_neg (by simp [he])]
theorem fourH_back {n : Nat} (h : n < 4294967296) : hostP (fourF n) true = some { H0 with kind := 3, four := n } := by
  have hb : ∀ y ∈ fourF n, nbF (b2 y) = false := fun y hy => dig_nb (four_bytes h y hy)
  unfold hostP
  rw [if_neg (head_of fun y hy => (nb_bad (hb y hy)).1), if_pos rfl]
  unfold nmF
  rw [pd_none (fun y hy e => (nb_bad (hb y hy)).2 (by omega)), four_dom h]
  dsimp only
  rw [if_neg (four_ne n), if_neg (any_all hb), if_pos (four_ends h), four_back h]
theorem opaq_is {s : Bytes} (h : s ≠ []) (hb : ∀ y ∈ s, badF (b2 y) = false) : hostP s false = some { H0 with kind := 5, name := pcB 0 s } := by
  unfold hostP
  rw [if_neg (head_of hb), if_neg (by simp), if_neg h, if_neg (any_all hb)]
theorem opaq_same {s : Bytes} (h : s ≠ []) (hb : ∀ y ∈ s, badF (b2 y) = false) (hc : ∀ y ∈ s, 31 < b2 y ∧ b2 y ≤ 126) : hostP s false = some { H0 with kind := 5, name := s } := by
  rw [opaq_is h hb, pc_same]
  intro y hy
  rw [in0]
  unfold ctlF
  have := hc y hy
  exact decide_eq_false (by omega)
/-- HostAddress: of four bytes where a host is not special -/
theorem fourO_back {n : Nat} (h : n < 4294967296) : hostP (fourF n) false = some { H0 with kind := 5, name := fourF n } :=
  opaq_same (four_ne n) (fun y hy => (nb_bad (dig_nb (four_bytes h y hy))).1) (fun y hy => by have := four_bytes h y hy; omega)
theorem hst_six (h : Hst) (hk : h.kind = 4) : hostF h = [91] ++ sixF h.six ++ [93] := by
  unfold hostF
  rw [if_neg (by omega), if_neg (by omega), if_pos hk]
/-- HostBack: the bytes of what is written, and that it is read again -/
theorem host_back {s : Bytes} {sp : Bool} {h : Hst} (e : hostP s sp = some h) : hostP (hostF h) sp = some h ∧ (h.kind ≠ 4 → ∀ y ∈ hostF h, 32 < b2 y ∧ b2 y ≤ 126 ∧ badF (b2 y) = false) ∧ (hostF h = [] ↔ h.kind = 1) := by
  cases hkind e with
  | six a h8 ha hs =>
    have hf : hostF { H0 with kind := 4, six := a } = [91] ++ sixF a ++ [93] := rfl
    rw [hf]
    exact ⟨br_back h8 ha sp, fun h => absurd rfl h, by simp⟩
  | name n es hs hd hn hb he =>
    subst es
    have hf : hostF { H0 with kind := 2, name := n } = n := rfl
    rw [hf]
    refine ⟨name_back hd hn hb he, fun _ y hy => ?_, by simp [hn]⟩
    have h1 := nb_bad (hb y hy)
    have h2 := (dom_once hd).1 y hy
    have h3 := bad_not32 h1.1
    exact ⟨by omega, by omega, h1.1⟩
  | four n es hs h =>
    subst es
    have hf : hostF { H0 with kind := 3, four := (n : Int) } = fourF n := rfl
    rw [hf]
    refine ⟨fourH_back h, fun _ y hy => ?_, by simp [four_ne n]⟩
    have := four_bytes h y hy
    exact ⟨by omega, by omega, (nb_bad (dig_nb this)).1⟩
  | empty es hs =>
    subst es
    have hf : hostF { H0 with kind := 1 } = [] := rfl
    rw [hf]
    refine ⟨rfl, fun _ y hy => (by cases hy), by simp⟩
  | opaq es hs h hb =>
    subst es
    have hf : hostF { H0 with kind := 5, name := pcB 0 s } = pcB 0 s := rfl
    rw [hf]
    have hb2 : ∀ y ∈ pcB 0 s, (31 < b2 y ∧ b2 y ≤ 126) ∧ badF (b2 y) = false := fun y hy => by
      obtain ⟨h1, x, hx, h2⟩ := pc_mem hy
      refine ⟨h1, ?_⟩
      rcases h2 with h2 | h2
      · rw [hb x hx] at h2; cases h2
      · exact h2
    refine ⟨opaq_same (pc_ne h) (fun y hy => (hb2 y hy).2) (fun y hy => (hb2 y hy).1), fun _ y hy => ?_, by simp [pc_ne h]⟩
    obtain ⟨h1, h2⟩ := hb2 y hy
    have h3 := bad_not32 h2
    exact ⟨by omega, h1.2, h2⟩
end Go.Proofs.YtgfklkfbccknoaaGreatDoor
