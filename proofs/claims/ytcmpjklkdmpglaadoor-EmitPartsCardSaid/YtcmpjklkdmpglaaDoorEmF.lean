/- Items in memory; a builder beside blocks of other kinds. -/
import Derived.Test.YtcmpjklkdmpglaaDoorEmE
namespace Go.Proofs.YtcmpjklkdmpglaaDoor
open Go.RowKit
set_option maxRecDepth 10000

structure Itm where
  right : Bool
  url : Url
  words : List Bytes
def itmCells (pv wv : Value) (i : Itm) : List Value := .bool i.right :: (urlCells pv i.url ++ [wv])
/-- an item in block b from place o on -/
def ItmAt (B : Nat) (w : World) (b o : Nat) (i : Itm) : Prop := ∃ pv wv, w.rangeAt b o (itmCells pv wv i) ∧ UrlOk i.url ∧ Sl B w pv (i.url.path.map S) ∧ Sl B w wv (i.words.map S)
/-- a slice of items -/
def Items (B : Nat) (w : World) (v : Value) (l : List Itm) : Prop :=
  ∃ c, l.length ≤ c ∧ ((l = [] ∧ ∃ a, v = .slice a 0 c) ∨ ∃ b o, b < B ∧ v = .slice (some ⟨b, o, none⟩) l.length c ∧ ∀ k (hk : k < l.length), ItmAt B w b (o + k * 25) l[k])
theorem ItmAt.below {B b o : Nat} {w w' : World} {i : Itm} (h : ItmAt B w b o i) (hb : Below B w w') (hB : b < B) : ItmAt B w' b o i := by
  obtain ⟨pv, wv, h1, h2, h3, h4⟩ := h
  exact ⟨pv, wv, fun j v hj => (hb.cell (p := ⟨b, o + j, none⟩) hB).trans (h1 j v hj), h2, h3.below hb, h4.below hb⟩
theorem ItmAt.more {B B' b o : Nat} {w : World} {i : Itm} (h : ItmAt B w b o i) (hB : B ≤ B') : ItmAt B' w b o i := by
  obtain ⟨pv, wv, h1, h2, h3, h4⟩ := h
  exact ⟨pv, wv, h1, h2, h3.more hB, h4.more hB⟩
theorem Items.below {B : Nat} {w w' : World} {v : Value} {l : List Itm} (h : Items B w v l) (hb : Below B w w') : Items B w' v l := by
  obtain ⟨c, hc, h⟩ := h
  refine ⟨c, hc, ?_⟩
  rcases h with h | ⟨b, o, hB, hv, ha⟩
  · exact .inl h
  · exact .inr ⟨b, o, hB, hv, fun k hk => (ha k hk).below hb hB⟩
theorem Items.more {B B' : Nat} {w : World} {v : Value} {l : List Itm} (h : Items B w v l) (hB : B ≤ B') : Items B' w v l := by
  obtain ⟨c, hc, h⟩ := h
  refine ⟨c, hc, ?_⟩
  rcases h with h | ⟨b, o, hb, hv, ha⟩
  · exact .inl h
  · exact .inr ⟨b, o, by omega, hv, fun k hk => (ha k hk).more hB⟩
theorem items_val {B : Nat} {w : World} {v : Value} {l : List Itm} (h : Items B w v l) : ∃ a c, v = .slice a l.length c := by
  obtain ⟨c, hc, h⟩ := h
  rcases h with ⟨rfl, a, rfl⟩ | ⟨b, o, _, rfl, _⟩
  · exact ⟨a, c, rfl⟩
  · exact ⟨_, c, rfl⟩
theorem items_at {B : Nat} {w : World} {a : Option Addr} {n c : Nat} {l : List Itm} (h : Items B w (.slice a n c) l) (k : Nat) (hk : k < l.length) :
    ∃ b o, a = some ⟨b, o, none⟩ ∧ b < B ∧ ItmAt B w b (o + k * 25) l[k] := by
  obtain ⟨c', _, h⟩ := h
  rcases h with ⟨rfl, _⟩ | ⟨b, o, hb, hv, ha⟩
  · simp at hk
  · injection hv with h1 h2 h3
    exact ⟨b, o, h1, hb, ha k hk⟩
theorem urlCells_len (pv : Value) (u : Url) (ok : UrlOk u) : (urlCells pv u).length = 23 := by
  simp [urlCells, hstCells, ok.h.l]
theorem itmCells_len (pv wv : Value) (i : Itm) (ok : UrlOk i.url) : (itmCells pv wv i).length = 25 := by
  simp [itmCells, urlCells_len pv i.url ok]
theorem itm_url {w : World} {b o : Nat} {pv wv : Value} {i : Itm} (h : w.rangeAt b o (itmCells pv wv i)) : w.rangeAt b (o + 1) (urlCells pv i.url) := by
  intro j v hj
  have := h (j + 1) v (by
    have hl := (List.getElem?_eq_some_iff.1 hj).1
    unfold itmCells
    rw [List.getElem?_cons_succ, List.getElem?_append_left hl]
    exact hj)
  rw [show o + 1 + j = o + (j + 1) by omega]
  exact this
theorem itm_words {w : World} {b o : Nat} {pv wv : Value} {i : Itm} (ok : UrlOk i.url) (h : w.rangeAt b o (itmCells pv wv i)) : w.cell? ⟨b, o + 24, none⟩ = some wv := by
  refine h 24 wv ?_
  unfold itmCells
  rw [List.getElem?_cons_succ, List.getElem?_append_right (by rw [urlCells_len pv i.url ok]; omega), urlCells_len pv i.url ok]
  rfl
theorem cells_one (pv wv : Value) (i : Itm) (hp : pv.oneCell' = true) (hw : wv.oneCell' = true) : (itmCells pv wv i).toArray.all (·.oneCell') = true := by
  refine all_oneCell_toArray fun v hv => ?_
  simp only [itmCells, urlCells, hstCells, List.mem_cons, List.mem_append, List.mem_map, List.not_mem_nil, or_false, List.mem_singleton] at hv
  rcases hv with rfl | ((((rfl | rfl | rfl) | (rfl | rfl | rfl | ⟨n, _, rfl⟩)) | h) | rfl)
  all_goals first | rfl | assumption | skip
  rcases h with rfl | rfl | rfl | rfl | rfl | rfl | rfl | rfl | rfl
  all_goals first | rfl | assumption
theorem sl_one {B : Nat} {w : World} {v : Value} {xs : List Value} (h : Sl B w v xs) : v.oneCell' = true := by
  obtain ⟨a, c, rfl⟩ := slice_val h
  rfl
def ZI : Array Value := #[.bool false, .string ⟨#[]⟩, .string ⟨#[]⟩, .string ⟨#[]⟩, .int .i64 0, .string ⟨#[]⟩, .int .u32 0, .int .u16 0, .int .u16 0, .int .u16 0, .int .u16 0, .int .u16 0, .int .u16 0, .int .u16 0, .int .u16 0, .bool false, .int .i64 0, .bool false, .string ⟨#[]⟩, .slice none 0 0, .bool false, .string ⟨#[]⟩, .bool false, .string ⟨#[]⟩, .slice none 0 0]
theorem allI (w : World) : (Instr.alloc 40 true (Value.tuple #[])).run Tryd.prog w = .ok (.pointer (some ⟨w.heap.size, 0, none⟩)) (w.alloc (.cells ZI 40)) := by kernel_rfl
theorem infI : (Tryd.prog.info? 40).map (·.size) = some 25 := by kernel_rfl

/-- a block that is neither a builder nor its buffer -/
def Kb (nb : Nat) (C : Array Value) (w : World) : Prop := w.heap[nb]? = some (.cells C 40 (0, 0))
theorem Kb.cell {nb : Nat} {C : Array Value} {w : World} (h : Kb nb C w) (i : Nat) : w.cell? ⟨nb, i, none⟩ = C[i]? := Go.Joins.cell_of_block h i
theorem Kb.below {nb : Nat} {C : Array Value} {w w' : World} (h : Kb nb C w) (hb : Below w.heap.size w w') : Kb nb C w' := by
  have hlt : nb < w.heap.size := by
    rcases Nat.lt_or_ge nb w.heap.size with hlt | hge
    · exact hlt
    · unfold Kb at h; rw [Array.getElem?_eq_none hge] at h; cases h
  exact (hb.block nb hlt).trans h
theorem Kb.fr {nb : Nat} {C : Array Value} {w w' : World} {b : Nat} {g : Option Nat} {l : Bytes} (h : Kb nb C w) (hB : Bld b g l w) (hf : Fr (fun k => k = b ∨ g = some k) w w') : Kb nb C w' := by
  have hlt : nb < w.heap.size := by
    rcases Nat.lt_or_ge nb w.heap.size with hlt | hge
    · exact hlt
    · unfold Kb at h; rw [Array.getElem?_eq_none hge] at h; cases h
  refine (hf.block nb hlt ?_).trans h
  have key : ∀ p, BldP p b g l w → ¬ (nb = b ∨ g = some nb) := by
    rintro p ⟨v, hb, ho, hg⟩ hx
    unfold Kb at h
    rcases hx with rfl | hx
    · rw [hb] at h
      injection h with h
      injection h with _ h
      revert h; decide
    · rcases ho.2 with ⟨rfl, _⟩ | ⟨g', cap, cur, rfl, _, hg', _⟩
      · rw [← hg] at hx; cases hx
      · have e : g' = nb := by rw [← hg] at hx; injection hx
        rw [e] at hg'
        rw [hg'] at h
        injection h with h
        injection h with _ h
        revert h; decide
  rcases hB with hB | hB
  · exact key _ hB
  · exact key _ hB
theorem Hb.ws2 {wb w : World} {l : Bytes} {nb : Nat} {C : Array Value} (m : Bytes) (h : Hb wb l w) (hk : Kb nb C w) (hlen : l.length + m.length ≤ 1099511627776) :
    Calls Tryd.prog 23 #[.pointer (some ⟨wb.heap.size, 0, none⟩), S m] w fun e w' => e = .returned (.tuple #[.int .i64 m.length, .nilIface]) ∧ Hb wb (l ++ m) w' ∧ Kb nb C w' := by
  obtain ⟨g, h1, h2⟩ := h.bld
  refine (writeString_any m h1 hlen).mono ?_
  rintro e w' ⟨rfl, hr⟩
  refine ⟨rfl, Hb.of_ret h2 h.bel hr, ?_⟩
  obtain ⟨_, _, _, hf⟩ := hr
  exact hk.fr h1 hf
theorem Hb.wb2 {wb w : World} {l : Bytes} {nb : Nat} {C : Array Value} (m : UInt8) (n : Int) (hn : n = b2 m) (h : Hb wb l w) (hk : Kb nb C w) (hlen : l.length + 1 ≤ 1099511627776) :
    Calls Tryd.prog 24 #[.pointer (some ⟨wb.heap.size, 0, none⟩), .int .u8 n] w fun e w' => e = .returned .nilIface ∧ Hb wb (l ++ [m]) w' ∧ Kb nb C w' := by
  subst hn
  obtain ⟨g, h1, h2⟩ := h.bld
  refine (writeByte_any m h1 hlen).mono ?_
  rintro e w' ⟨rfl, hr⟩
  refine ⟨rfl, Hb.of_ret h2 h.bel hr, ?_⟩
  obtain ⟨_, _, _, hf⟩ := hr
  exact hk.fr h1 hf
/-- items that are few, and short -/
structure ItmSm (i : Itm) : Prop where
  url : UrlSm i.url
  n : i.words.length ≤ 10
  w : ∀ x ∈ i.words, x.length ≤ 100
def wordsF (l : List Bytes) : Bytes := l.flatMap fun x => [32] ++ x
def itemF (i : Itm) : Bytes := serF i.url true ++ wordsF i.words
def listF : List Itm → Bytes
  | [] => []
  | x :: r => itemF x ++ r.flatMap fun y => [44, 32] ++ itemF y
theorem wordsF_take (l : List Bytes) (k : Nat) (hk : k < l.length) : wordsF (l.take (k + 1)) = wordsF (l.take k) ++ [32] ++ l[k] := by
  unfold wordsF
  rw [List.take_succ_eq_append_getElem hk, List.flatMap_append, List.flatMap_cons, List.flatMap_nil, List.append_nil, List.append_assoc]
theorem wordsF_len : ∀ (l : List Bytes), (∀ x ∈ l, x.length ≤ 100) → (wordsF l).length ≤ 101 * l.length
  | [], _ => by simp [wordsF]
  | x :: l, h => by
    have h1 := wordsF_len l (fun y hy => h y (List.mem_cons_of_mem _ hy))
    have h2 := h x List.mem_cons_self
    simp only [wordsF, List.flatMap_cons, List.length_append, List.length_cons, List.length_nil] at h1 ⊢
    omega
theorem itemF_len (i : Itm) (ok : UrlOk i.url) (h : ItmSm i) : (itemF i).length ≤ 5002000 := by
  have h1 := serF_len i.url ok h.url true
  have h2 := wordsF_len i.words h.w
  have h3 := h.n
  unfold itemF
  rw [List.length_append]
  omega
theorem listF_take (l : List Itm) (k : Nat) (hk : k < l.length) : listF (l.take (k + 1)) = listF (l.take k) ++ (if k = 0 then [] else [44, 32]) ++ itemF l[k] := by
  cases l with
  | nil => simp at hk
  | cons x r =>
    cases k with
    | zero => simp [listF]
    | succ k =>
      have hk' : k < r.length := by simpa using hk
      rw [List.take_succ_cons, List.take_succ_cons, if_neg (by omega)]
      simp only [listF, List.getElem_cons_succ]
      rw [List.take_succ_eq_append_getElem hk', List.flatMap_append, List.flatMap_cons, List.flatMap_nil, List.append_nil]
      simp only [List.append_assoc]
end Go.Proofs.YtcmpjklkdmpglaaDoor
