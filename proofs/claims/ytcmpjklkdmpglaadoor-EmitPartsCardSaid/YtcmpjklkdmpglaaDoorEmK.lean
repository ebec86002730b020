/- The small case that the statements of layer 25 begin with. -/
import Derived.Test.YtcmpjklkdmpglaaDoorEmJ
namespace Go.Proofs.YtcmpjklkdmpglaaDoor
open Go.RowKit
set_option maxRecDepth 10000

def h0 : Hst := ⟨0, [], 0, [0, 0, 0, 0, 0, 0, 0, 0]⟩
def hA : Hst := ⟨2, [97], 0, [0, 0, 0, 0, 0, 0, 0, 0]⟩
def uA : Url := ⟨[104, 116, 116, 112], [], [], hA, false, 0, false, [], [[]], true, [98, 38, 99], false, []⟩
def uO (fl : Bytes) : Url := ⟨[120], [], [], h0, false, 0, true, fl, [], false, [], false, []⟩
def ZU : Array Value := #[.string ⟨#[]⟩, .string ⟨#[]⟩, .string ⟨#[]⟩, .int .i64 0, .string ⟨#[]⟩, .int .u32 0, .int .u16 0, .int .u16 0, .int .u16 0, .int .u16 0, .int .u16 0, .int .u16 0, .int .u16 0, .int .u16 0, .bool false, .int .i64 0, .bool false, .string ⟨#[]⟩, .slice none 0 0, .bool false, .string ⟨#[]⟩, .bool false, .string ⟨#[]⟩]
theorem allU (w : World) : (Instr.alloc 32 true (Value.tuple #[])).run Tryd.prog w = .ok (.pointer (some ⟨w.heap.size, 0, none⟩)) (w.alloc (.cells ZU 32)) := by kernel_rfl
theorem bldH (w : World) : (Instr.build 29 #[(0, .int .i64 2), (1, .string ⟨#[97]⟩)]).run Tryd.prog w = .ok (.agg (hstCells hA).toArray) w := by kernel_rfl
theorem bldA (a : Option Addr) (n c : Nat) (w : World) : (Instr.build 32 #[(0, .string ⟨#[104, 116, 116, 112]⟩), (3, .agg (hstCells hA).toArray), (8, .slice a n c), (9, .bool true), (10, .string ⟨#[98, 38, 99]⟩)]).run Tryd.prog w = .ok (.agg (urlCells (.slice a n c) uA).toArray) w := by kernel_rfl
theorem bldO (f : Array UInt8) (w : World) : (Instr.build 32 #[(0, .string ⟨#[120]⟩), (6, .bool true), (7, .string ⟨f⟩)]).run Tryd.prog w = .ok (.agg (urlCells (.slice none 0 0) (uO f.toList)).toArray) w := by
  cases f
  kernel_rfl
theorem okO (fl : Bytes) : UrlOk (uO fl) := ⟨⟨by simp [uO, h0], by simp [uO, h0], rfl, by simp [uO, h0]⟩, by simp [uO]⟩
theorem okA : UrlOk uA := ⟨⟨by simp [uA, hA], by simp [uA, hA], rfl, by simp [uA, hA]⟩, by simp [uA]⟩
theorem url_one (pv : Value) (u : Url) (hp : pv.oneCell' = true) : (urlCells pv u).toArray.all (·.oneCell') = true := by
  refine all_oneCell_toArray fun v hv => ?_
  simp only [urlCells, hstCells, List.mem_cons, List.mem_append, List.mem_map, List.not_mem_nil, or_false] at hv
  rcases hv with (((rfl | rfl | rfl) | (rfl | rfl | rfl | ⟨n, _, rfl⟩)) | h)
  all_goals first | rfl | assumption | skip
  rcases h with rfl | rfl | rfl | rfl | rfl | rfl | rfl | rfl | rfl
  all_goals first | rfl | assumption
theorem storeU {ops : Array Oper} {rest : List Oper} {o : Oper} {a : Act} {w : World} {Q : Exit → Act → World → Prop} (hgd : o.guard = none) (x y : Operand) (ho : o.op = .store 32 x y) (pv : Value) (u : Url)
    (hx : a.eval x = .pointer (some ⟨w.heap.size, 0, none⟩)) (hy : a.eval y = .agg (urlCells pv u).toArray) (ok : UrlOk u) (hp : pv.oneCell' = true)
    (h : wpList Tryd.prog ops Q rest (a.put o.dst undef) (w.alloc (.cells (urlCells pv u).toArray 32))) : wpList Tryd.prog ops Q (o :: rest) a (w.alloc (.cells ZU 32)) := by
  have hl := urlCells_len pv u ok
  exact store_new hgd 32 x y ho (urlCells pv u).toArray ZU 32 hx hy (by rw [List.size_toArray, hl]; kernel_rfl) (by rw [show (urlCells pv u).toArray.size = 23 by rw [List.size_toArray, hl]]; rfl) (url_one pv u hp) h
theorem fresh_range (w : World) (cs : List Value) (t : TypeId) : (w.alloc (.cells cs.toArray t)).rangeAt w.heap.size 0 cs := fun j v hj => by
  rw [World.cell?_alloc_mark, Nat.zero_add, List.getElem?_toArray]; exact hj
theorem range_keep {w w' : World} {b o : Nat} {cs : List Value} (h : w.rangeAt b o cs) (hb : Below w.heap.size w w') (hlt : b < w.heap.size) : w'.rangeAt b o cs := fun j v hj => (hb.cell (p := ⟨b, o + j, none⟩) hlt).trans (h j v hj)

section
variable {ops : Array Oper} {rest : List Oper} {o : Oper} {a : Act} {w : World} {Q : Exit → Act → World → Prop}
theorem bslice_to (hg : o.guard = none) (t : TypeId) (n : Nat) (parts : Array (Nat × Operand)) (ho : o.op = .buildSlice t n parts) (v : Value) (w' : World) (xs : Array (Nat × Value)) (hx : parts.map (fun (i, x) => (i, a.eval x)) = xs) (hr : (Instr.buildSlice t n xs).run Tryd.prog w = .ok v w') (h : wpList Tryd.prog ops Q rest (a.put o.dst v) w') : wpList Tryd.prog ops Q (o :: rest) a w := by
  refine wpList_plain hg fun K hK => ?_
  subst hx
  unfold Oper.wp execOp
  simp only [ho, Sem.run_bind, Sem.run_pure, Result.andThen_ok, hr]
  exact hK _ _ h
theorem b_host (hg : o.guard = none) (ho : o.op = .build 29 #[(0, .const (.int .i64 2)), (1, .const (.string ⟨#[97]⟩))]) (h : wpList Tryd.prog ops Q rest (a.put o.dst (.agg (hstCells hA).toArray)) w) : wpList Tryd.prog ops Q (o :: rest) a w :=
  build_to hg 29 _ ho (.agg (hstCells hA).toArray) #[(0, .int .i64 2), (1, .string ⟨#[97]⟩)] (by simp [Act.eval]) bldH h
theorem b_urlA (hg : o.guard = none) (i j : Tmp) (ho : o.op = .build 32 #[(0, .const (.string ⟨#[104, 116, 116, 112]⟩)), (3, .tmp i), (8, .tmp j), (9, .const (.bool true)), (10, .const (.string ⟨#[98, 38, 99]⟩))]) (av : Option Addr) (n c : Nat)
    (hi : a.eval (.tmp i) = .agg (hstCells hA).toArray) (hj : a.eval (.tmp j) = .slice av n c) (h : wpList Tryd.prog ops Q rest (a.put o.dst (.agg (urlCells (.slice av n c) uA).toArray)) w) : wpList Tryd.prog ops Q (o :: rest) a w := by
  refine build_to hg 32 _ ho (.agg (urlCells (.slice av n c) uA).toArray) #[(0, .string ⟨#[104, 116, 116, 112]⟩), (3, .agg (hstCells hA).toArray), (8, .slice av n c), (9, .bool true), (10, .string ⟨#[98, 38, 99]⟩)] ?_ (bldA av n c) h
  rw [← hi, ← hj]
  simp [Act.eval]
theorem b_urlO (hg : o.guard = none) (f : Array UInt8) (ho : o.op = .build 32 #[(0, .const (.string ⟨#[120]⟩)), (6, .const (.bool true)), (7, .const (.string ⟨f⟩))]) (h : wpList Tryd.prog ops Q rest (a.put o.dst (.agg (urlCells (.slice none 0 0) (uO f.toList)).toArray)) w) : wpList Tryd.prog ops Q (o :: rest) a w :=
  build_to hg 32 _ ho (.agg (urlCells (.slice none 0 0) (uO f.toList)).toArray) #[(0, .string ⟨#[120]⟩), (6, .bool true), (7, .string ⟨f⟩)] (by simp [Act.eval]) (bldO f) h
end

/-- an address in a block of its own -/
structure UrlB (W : World) (b : Nat) (pv : Value) (u : Url) : Prop where
  range : W.rangeAt b 0 (urlCells pv u)
  lt : b < W.heap.size
  ok : UrlOk u
  sl : Sl W.heap.size W pv (u.path.map S)
theorem UrlB.keep {W W' : World} {b : Nat} {pv : Value} {u : Url} (h : UrlB W b pv u) (hb : Below W.heap.size W W') : UrlB W' b pv u :=
  ⟨range_keep h.range hb h.lt, Nat.lt_of_lt_of_le h.lt hb.size, h.ok, (h.sl.below hb).more hb.size⟩
theorem UrlB.new (W : World) (pv : Value) (u : Url) (ok : UrlOk u) (sl : Sl W.heap.size W pv (u.path.map S)) : UrlB (W.alloc (.cells (urlCells pv u).toArray 32)) W.heap.size pv u :=
  ⟨fresh_range W _ _, by simp, ok, (sl.below ((Below.refl _ _).alloc (Nat.le_refl _) _)).more (by simp)⟩
theorem sl_one1 (W : World) (s : Bytes) : Sl (W.alloc (.cells #[S s] 9)).heap.size (W.alloc (.cells #[S s] 9)) (.slice (some ⟨W.heap.size, 0, none⟩) 1 1) ([s].map S) := by
  refine ⟨1, by simp, by unfold maxLen; omega, .inr ⟨W.heap.size, 0, by simp, rfl, fun j hj => ?_⟩⟩
  have h0 : j = 0 := by simpa using hj
  subst h0
  rw [World.cell?_alloc_mark]; rfl
theorem bel_new (W : World) (o : Obj) : Below W.heap.size W (W.alloc o) := (Below.refl _ _).alloc (Nat.le_refl _) _
def iA : Itm := ⟨false, uA, [[49, 120]]⟩
def iB : Itm := ⟨false, uO [121], []⟩
theorem bldIA (a : Option Addr) (n c : Nat) (a' : Option Addr) (n' c' : Nat) (w : World) : (Instr.build 40 #[(1, .agg (urlCells (.slice a n c) uA).toArray), (2, .slice a' n' c')]).run Tryd.prog w = .ok (.agg (itmCells (.slice a n c) (.slice a' n' c') iA).toArray) w := by kernel_rfl
theorem bldIB (w : World) : (Instr.build 40 #[(1, .agg (urlCells (.slice none 0 0) (uO [121])).toArray)]).run Tryd.prog w = .ok (.agg (itmCells (.slice none 0 0) (.slice none 0 0) iB).toArray) w := by kernel_rfl
theorem bldS (a : Option Addr) (n c : Nat) (a' : Option Addr) (n' c' : Nat) (w : World) : (Instr.buildSlice 22 2 #[(0, .agg (itmCells (.slice a n c) (.slice a' n' c') iA).toArray), (1, .agg (itmCells (.slice none 0 0) (.slice none 0 0) iB).toArray)]).run Tryd.prog w =
    .ok (.slice (some ⟨w.heap.size, 0, none⟩) 2 2) (w.alloc (.cells (itmCells (.slice a n c) (.slice a' n' c') iA ++ itmCells (.slice none 0 0) (.slice none 0 0) iB).toArray 40)) := by kernel_rfl
section
variable {ops : Array Oper} {rest : List Oper} {o : Oper} {a : Act} {w : World} {Q : Exit → Act → World → Prop}
theorem b_itmA (hg : o.guard = none) (i j : Tmp) (ho : o.op = .build 40 #[(1, .tmp i), (2, .tmp j)]) (av : Option Addr) (n c : Nat) (av' : Option Addr) (n' c' : Nat)
    (hi : a.eval (.tmp i) = .agg (urlCells (.slice av n c) uA).toArray) (hj : a.eval (.tmp j) = .slice av' n' c') (h : wpList Tryd.prog ops Q rest (a.put o.dst (.agg (itmCells (.slice av n c) (.slice av' n' c') iA).toArray)) w) : wpList Tryd.prog ops Q (o :: rest) a w := by
  refine build_to hg 40 _ ho (.agg (itmCells (.slice av n c) (.slice av' n' c') iA).toArray) #[(1, .agg (urlCells (.slice av n c) uA).toArray), (2, .slice av' n' c')] ?_ (bldIA av n c av' n' c') h
  rw [← hi, ← hj]
  simp [Act.eval]
theorem b_itmB (hg : o.guard = none) (i : Tmp) (ho : o.op = .build 40 #[(1, .tmp i)])
    (hi : a.eval (.tmp i) = .agg (urlCells (.slice none 0 0) (uO [121])).toArray) (h : wpList Tryd.prog ops Q rest (a.put o.dst (.agg (itmCells (.slice none 0 0) (.slice none 0 0) iB).toArray)) w) : wpList Tryd.prog ops Q (o :: rest) a w := by
  refine build_to hg 40 _ ho (.agg (itmCells (.slice none 0 0) (.slice none 0 0) iB).toArray) #[(1, .agg (urlCells (.slice none 0 0) (uO [121])).toArray)] ?_ bldIB h
  rw [← hi]
  simp [Act.eval]
theorem b_items (hg : o.guard = none) (i j : Tmp) (ho : o.op = .buildSlice 22 2 #[(0, .tmp i), (1, .tmp j)]) (av : Option Addr) (n c : Nat) (av' : Option Addr) (n' c' : Nat)
    (hi : a.eval (.tmp i) = .agg (itmCells (.slice av n c) (.slice av' n' c') iA).toArray) (hj : a.eval (.tmp j) = .agg (itmCells (.slice none 0 0) (.slice none 0 0) iB).toArray)
    (h : wpList Tryd.prog ops Q rest (a.put o.dst (.slice (some ⟨w.heap.size, 0, none⟩) 2 2)) (w.alloc (.cells (itmCells (.slice av n c) (.slice av' n' c') iA ++ itmCells (.slice none 0 0) (.slice none 0 0) iB).toArray 40))) : wpList Tryd.prog ops Q (o :: rest) a w := by
  refine bslice_to hg _ _ _ ho _ _ #[(0, .agg (itmCells (.slice av n c) (.slice av' n' c') iA).toArray), (1, .agg (itmCells (.slice none 0 0) (.slice none 0 0) iB).toArray)] ?_ (bldS av n c av' n' c' w) h
  rw [← hi, ← hj]
  simp [Act.eval]
end
theorem items_two (W : World) (pv wv : Value) (h1 : Sl W.heap.size W pv (uA.path.map S)) (h2 : Sl W.heap.size W wv (iA.words.map S)) :
    Items (W.alloc (.cells (itmCells pv wv iA ++ itmCells (.slice none 0 0) (.slice none 0 0) iB).toArray 40)).heap.size (W.alloc (.cells (itmCells pv wv iA ++ itmCells (.slice none 0 0) (.slice none 0 0) iB).toArray 40)) (.slice (some ⟨W.heap.size, 0, none⟩) 2 2) [iA, iB] := by
  have hl : (itmCells pv wv iA).length = 25 := itmCells_len pv wv iA okA
  have hr := fresh_range W (itmCells pv wv iA ++ itmCells (.slice none 0 0) (.slice none 0 0) iB) 40
  refine ⟨2, by simp, .inr ⟨W.heap.size, 0, by simp, rfl, fun k hk => ?_⟩⟩
  match k, hk with
  | 0, _ =>
    refine ⟨pv, wv, fun j v hj => ?_, okA, (h1.below (bel_new W _)).more (by simp), (h2.below (bel_new W _)).more (by simp)⟩
    have hj2 : (itmCells pv wv iA)[j]? = some v := hj
    have hjl := (List.getElem?_eq_some_iff.1 hj2).1
    exact hr j v (by rw [List.getElem?_append_left hjl]; exact hj2)
  | 1, _ =>
    refine ⟨.slice none 0 0, .slice none 0 0, fun j v hj => ?_, okO _, Sl.nil, Sl.nil⟩
    have hj2 : (itmCells (.slice none 0 0) (.slice none 0 0) iB)[j]? = some v := hj
    have := hr (25 + j) v (by rw [List.getElem?_append_right (by omega), hl, show 25 + j - 25 = j by omega]; exact hj2)
    rw [Nat.zero_add] at this
    exact this

theorem wpList_load_g {P : Program} {ops : Array Oper} {rest : List Oper} {op : Oper} {a : Act} {w : World} {Q : Exit → Act → World → Prop} (hw : Region.wanted op (yielded ops a.tmps) = true) (ty : TypeId) (x : Operand) (ho : op.op = .load ty x)
    (b o : Nat) (hx : a.eval x = .pointer (some ⟨b, o, none⟩)) (cs : List Value) (d : TypeDesc) (hc : w.rangeAt b o cs)
    (hu : P.underlying ty = some d) (hd : d.isRow = true) (hi : (P.info? ty).map (·.size) = some cs.length)
    (h : wpList P ops Q rest (a.put op.dst (.agg cs.toArray)) w) : wpList P ops Q (op :: rest) a w := by
  unfold wpList
  rw [if_pos hw]
  exact .inl (wp_load_mid ty x ho b o hx cs d hc hu hd hi h)
theorem smA : UrlSm uA := ⟨by simp [uA], by simp [uA], by simp [uA], by simp [uA, hA], by simp [uA], by simp [uA, joinP], by simp [uA], by simp [uA]⟩
theorem smO (fl : Bytes) (h : fl.length ≤ 10) : UrlSm (uO fl) := ⟨by simp [uO], by simp [uO], by simp [uO], by simp [uO, h0], by simp [uO]; omega, by simp [uO, joinP], by simp [uO], by simp [uO]⟩
theorem smI : ∀ i ∈ [iA, iB], ItmSm i := by
  intro i hi
  simp only [List.mem_cons, List.not_mem_nil, or_false] at hi
  rcases hi with rfl | rfl
  · exact ⟨smA, by simp [iA], by simp [iA]⟩
  · exact ⟨smO _ (by simp), by simp [iB], by simp [iB]⟩
theorem fA : fitsF (serF uA true) = true := by decide +kernel
theorem fC : fitsF (serF (uO [121, 44]) true) = false := by decide +kernel
theorem fD : fitsF (serF (uO [121, 32, 122]) true) = false := by decide +kernel
theorem w2 : writeF 2 [iA, iB] [53] = [104, 116, 116, 112, 58, 47, 47, 97, 47, 63, 98, 38, 97, 109, 112, 59, 99, 32, 49, 120, 44, 32, 120, 58, 121] := by decide +kernel
theorem w1 : writeF 1 [iA, iB] [53] = [104, 116, 116, 112, 58, 47, 47, 97, 47, 63, 98, 38, 97, 109, 112, 59, 99] := by decide +kernel
theorem w3 : writeF 3 [iA, iB] [53] = [53, 59, 32, 117, 114, 108, 61, 104, 116, 116, 112, 58, 47, 47, 97, 47, 63, 98, 38, 97, 109, 112, 59, 99] := by decide +kernel
theorem w0 : writeF 0 [iA, iB] [53] = [] := by decide +kernel
theorem wn : writeF 1 [] [] = [] := rfl
theorem sm_fits (u : Url) (b : Bool) (hb : fitsF (serF u true) = b) (sm : UrlSm u) {pv : Value} {W : World} {a : Nat} (h : UrlB W a pv u) (hE : NE W) :
    Calls Tryd.prog 8 #[.agg (urlCells pv u).toArray] W fun e w' => e = .returned (.bool b) ∧ Below W.heap.size W w' := by
  subst hb
  exact fits_any u _ pv W (urlAt_of pv h.ok) h.sl sm hE
theorem sm_write (k : Int) (x : Bytes) (hx : writeF k [iA, iB] [53] = x) {v : Value} {W : World} (h : Items W.heap.size W v [iA, iB]) (hE : NE W) (d : ByteArray) (hd : d = bs [53]) (y : ByteArray) (hy : y = bs x) :
    Calls Tryd.prog 10 #[.int .i64 k, .agg #[v, .string d]] W fun e w' => e = .returned (.string y) ∧ Below W.heap.size W w' := by
  subst hx; subst hd; subst hy
  exact ewrite_any k [iA, iB] v [53] W h smI (by simp) (by simp) hE
theorem sm_none (k : Int) {W : World} (hE : NE W) :
    Calls Tryd.prog 10 #[.int .i64 k, .agg #[.slice none 0 0, .string ⟨#[]⟩]] W fun e w' => e = .returned (.string ⟨#[]⟩) ∧ Below W.heap.size W w' :=
  ewrite_any k [] (.slice none 0 0) [] W ⟨0, by simp, .inl ⟨rfl, _, rfl⟩⟩ (by simp) (by simp) (by simp) hE
set_option maxHeartbeats 16000000 in
theorem small25_any (w : World) (hE : NE w) : Calls Tryd.prog 5 #[] w fun e w' => e = .returned (.bool true) ∧ Below w.heap.size w w' := by
  have HE := Lib.hid hE; clear hE
  go_enter Tryd.func5, Tryd.ntmps5
  go_upto_region 2 with (first
    | (refine b_host rfl rfl ?_)
    | (refine b_urlA rfl 6 7 rfl _ _ _ rfl rfl ?_)
    | (refine alloc_to rfl 32 rfl _ _ (allU _) ?_)
    | (refine storeU rfl (.tmp 1) (.tmp 8) rfl _ uA rfl rfl okA rfl ?_)
    | fail)
  have uP : UrlB ((w.alloc (.cells #[.string ⟨#[]⟩] 9)).alloc (.cells (urlCells (.slice (some ⟨w.heap.size, 0, none⟩) 1 1) uA).toArray 32)) (w.alloc (.cells #[.string ⟨#[]⟩] 9)).heap.size (.slice (some ⟨w.heap.size, 0, none⟩) 1 1) uA := UrlB.new _ _ uA okA (sl_one1 w [])
  have bP : Below w.heap.size w ((w.alloc (.cells #[.string ⟨#[]⟩] 9)).alloc (.cells (urlCells (.slice (some ⟨w.heap.size, 0, none⟩) 1 1) uA).toArray 32)) := (bel_new w _).trans ((bel_new _ _).mono (by simp))
  generalize w.alloc (.cells #[.string ⟨#[]⟩] 9) = wP at uP bP ⊢
  generalize wP.alloc (.cells (urlCells (.slice (some ⟨w.heap.size, 0, none⟩) 1 1) uA).toArray 32) = wA at uP bP ⊢
  generalize wP.heap.size = aA at uP ⊢
  have HuP := Lib.hid uP
  have HbP := Lib.hid bP
  clear uP bP
  try simp only [Act.put, List.setIfInBounds_toArray, List.set_cons_zero, List.set_cons_succ]
  go_upto_region 3 with (first
    | (refine b_urlO rfl #[121] rfl ?_)
    | (refine alloc_to rfl 32 rfl _ _ (allU _) ?_)
    | (refine storeU rfl (.tmp 2) (.tmp 9) rfl _ (uO [121]) rfl rfl (okO _) rfl ?_)
    | fail)
  have uP := HuP.out
  have bP := HbP.out
  clear HuP HbP
  have uB := UrlB.new wA (.slice none 0 0) (uO [121]) (okO _) Sl.nil
  replace uP := uP.keep (bel_new wA (.cells (urlCells (.slice none 0 0) (uO [121])).toArray 32))
  replace bP := bP.trans ((bel_new wA (.cells (urlCells (.slice none 0 0) (uO [121])).toArray 32)).mono bP.size)
  generalize wA.alloc (.cells (urlCells (.slice none 0 0) (uO [121])).toArray 32) = wB at uP uB bP ⊢
  generalize wA.heap.size = aB at uB ⊢
  have HuP := Lib.hid uP
  have HuB := Lib.hid uB
  have HbP := Lib.hid bP
  clear uP uB bP
  try simp only [Act.put, List.setIfInBounds_toArray, List.set_cons_zero, List.set_cons_succ]
  go_upto_region 4 with (first
    | (refine b_urlO rfl #[121, 44] rfl ?_)
    | (refine alloc_to rfl 32 rfl _ _ (allU _) ?_)
    | (refine storeU rfl (.tmp 3) (.tmp 10) rfl _ (uO [121, 44]) rfl rfl (okO _) rfl ?_)
    | fail)
  have uP := HuP.out
  have uB := HuB.out
  have bP := HbP.out
  clear HuP HuB HbP
  have uC := UrlB.new wB (.slice none 0 0) (uO [121, 44]) (okO _) Sl.nil
  replace uP := uP.keep (bel_new wB (.cells (urlCells (.slice none 0 0) (uO [121, 44])).toArray 32))
  replace uB := uB.keep (bel_new wB (.cells (urlCells (.slice none 0 0) (uO [121, 44])).toArray 32))
  replace bP := bP.trans ((bel_new wB (.cells (urlCells (.slice none 0 0) (uO [121, 44])).toArray 32)).mono bP.size)
  generalize wB.alloc (.cells (urlCells (.slice none 0 0) (uO [121, 44])).toArray 32) = wC at uP uB uC bP ⊢
  generalize wB.heap.size = aC at uC ⊢
  have HuP := Lib.hid uP
  have HuB := Lib.hid uB
  have HuC := Lib.hid uC
  have HbP := Lib.hid bP
  clear uP uB uC bP
  try simp only [Act.put, List.setIfInBounds_toArray, List.set_cons_zero, List.set_cons_succ]
  go_upto_region 5 with (first
    | (refine b_urlO rfl #[121, 32, 122] rfl ?_)
    | (refine alloc_to rfl 32 rfl _ _ (allU _) ?_)
    | (refine storeU rfl (.tmp 4) (.tmp 11) rfl _ (uO [121, 32, 122]) rfl rfl (okO _) rfl ?_)
    | fail)
  have uP := HuP.out
  have uB := HuB.out
  have uC := HuC.out
  have bP := HbP.out
  clear HuP HuB HuC HbP
  have uD := UrlB.new wC (.slice none 0 0) (uO [121, 32, 122]) (okO _) Sl.nil
  replace uP := uP.keep (bel_new wC (.cells (urlCells (.slice none 0 0) (uO [121, 32, 122])).toArray 32))
  replace uB := uB.keep (bel_new wC (.cells (urlCells (.slice none 0 0) (uO [121, 32, 122])).toArray 32))
  replace uC := uC.keep (bel_new wC (.cells (urlCells (.slice none 0 0) (uO [121, 32, 122])).toArray 32))
  replace bP := bP.trans ((bel_new wC (.cells (urlCells (.slice none 0 0) (uO [121, 32, 122])).toArray 32)).mono bP.size)
  generalize wC.alloc (.cells (urlCells (.slice none 0 0) (uO [121, 32, 122])).toArray 32) = wD at uP uB uC uD bP ⊢
  generalize wC.heap.size = aD at uD ⊢
  have UA := Lib.hid uP; have UB := Lib.hid uB; have UC := Lib.hid uC; have UD := Lib.hid uD; have BP := Lib.hid bP
  clear uP uB uC uD bP
  try simp only [Act.put, List.setIfInBounds_toArray, List.set_cons_zero, List.set_cons_succ]
  have hit : Items ((wD.alloc (.cells #[.string ⟨#[49, 120]⟩] 9)).alloc (.cells (itmCells (.slice (some ⟨w.heap.size, 0, none⟩) 1 1) (.slice (some ⟨wD.heap.size, 0, none⟩) 1 1) iA ++ itmCells (.slice none 0 0) (.slice none 0 0) iB).toArray 40)).heap.size ((wD.alloc (.cells #[.string ⟨#[49, 120]⟩] 9)).alloc (.cells (itmCells (.slice (some ⟨w.heap.size, 0, none⟩) 1 1) (.slice (some ⟨wD.heap.size, 0, none⟩) 1 1) iA ++ itmCells (.slice none 0 0) (.slice none 0 0) iB).toArray 40)) (.slice (some ⟨(wD.alloc (.cells #[.string ⟨#[49, 120]⟩] 9)).heap.size, 0, none⟩) 2 2) [iA, iB] := items_two (wD.alloc (.cells #[.string ⟨#[49, 120]⟩] 9)) _ _ ((UA.out.sl.below (bel_new wD _)).more (by simp)) (sl_one1 wD [49, 120])
  have hbI : Below wD.heap.size wD ((wD.alloc (.cells #[.string ⟨#[49, 120]⟩] 9)).alloc (.cells (itmCells (.slice (some ⟨w.heap.size, 0, none⟩) 1 1) (.slice (some ⟨wD.heap.size, 0, none⟩) 1 1) iA ++ itmCells (.slice none 0 0) (.slice none 0 0) iB).toArray 40)) := (bel_new wD _).trans ((bel_new (wD.alloc (.cells #[.string ⟨#[49, 120]⟩] 9)) _).mono (by simp))
  have HITEMS := Lib.hid hit; clear hit
  have HBI := Lib.hid hbI; clear hbI
  go_upto_region 6 with (first
    | (refine wpList_load_mid rfl 32 (.tmp 1) rfl aA 0 rfl (urlCells (.slice (some ⟨w.heap.size, 0, none⟩) 1 1) uA) _ UA.out.range Tryd.underlying32 rfl (by rw [urlCells_len _ _ UA.out.ok]; kernel_rfl) ?_)
    | (refine wpList_load_mid rfl 32 (.tmp 2) rfl aB 0 rfl (urlCells (.slice none 0 0) (uO [121])) _ (UB.out.keep (bel_new wD (.cells #[.string ⟨#[49, 120]⟩] 9))).range Tryd.underlying32 rfl (by rw [urlCells_len _ _ UB.out.ok]; kernel_rfl) ?_)
    | (refine b_itmA rfl 12 13 rfl _ _ _ _ _ _ rfl rfl ?_)
    | (refine b_itmB rfl 15 rfl rfl ?_)
    | (refine b_items rfl 14 16 rfl _ _ _ _ _ _ rfl rfl ?_)
    | fail)
  have hb : Below wD.heap.size wD (((wD.alloc (.cells #[.string ⟨#[49, 120]⟩] 9)).alloc (.cells (itmCells (.slice (some ⟨w.heap.size, 0, none⟩) 1 1) (.slice (some ⟨wD.heap.size, 0, none⟩) 1 1) iA ++ itmCells (.slice none 0 0) (.slice none 0 0) iB).toArray 40)).alloc (.cells #[.slice (some ⟨wD.heap.size + 1, 0, none⟩) 2 2, .string ⟨#[53]⟩] 24)) := HBI.out.trans ((bel_new ((wD.alloc (.cells #[.string ⟨#[49, 120]⟩] 9)).alloc (.cells (itmCells (.slice (some ⟨w.heap.size, 0, none⟩) 1 1) (.slice (some ⟨wD.heap.size, 0, none⟩) 1 1) iA ++ itmCells (.slice none 0 0) (.slice none 0 0) iB).toArray 40)) (.cells #[.slice (some ⟨wD.heap.size + 1, 0, none⟩) 2 2, .string ⟨#[53]⟩] 24)).mono HBI.out.size)
  have hI : Items (((wD.alloc (.cells #[.string ⟨#[49, 120]⟩] 9)).alloc (.cells (itmCells (.slice (some ⟨w.heap.size, 0, none⟩) 1 1) (.slice (some ⟨wD.heap.size, 0, none⟩) 1 1) iA ++ itmCells (.slice none 0 0) (.slice none 0 0) iB).toArray 40)).alloc (.cells #[.slice (some ⟨wD.heap.size + 1, 0, none⟩) 2 2, .string ⟨#[53]⟩] 24)).heap.size (((wD.alloc (.cells #[.string ⟨#[49, 120]⟩] 9)).alloc (.cells (itmCells (.slice (some ⟨w.heap.size, 0, none⟩) 1 1) (.slice (some ⟨wD.heap.size, 0, none⟩) 1 1) iA ++ itmCells (.slice none 0 0) (.slice none 0 0) iB).toArray 40)).alloc (.cells #[.slice (some ⟨wD.heap.size + 1, 0, none⟩) 2 2, .string ⟨#[53]⟩] 24)) (.slice (some ⟨wD.heap.size + 1, 0, none⟩) 2 2) [iA, iB] := by
    have := HITEMS.out
    rw [show (wD.alloc (.cells #[.string ⟨#[49, 120]⟩] 9)).heap.size = wD.heap.size + 1 by simp] at this
    exact (this.below (bel_new ((wD.alloc (.cells #[.string ⟨#[49, 120]⟩] 9)).alloc (.cells (itmCells (.slice (some ⟨w.heap.size, 0, none⟩) 1 1) (.slice (some ⟨wD.heap.size, 0, none⟩) 1 1) iA ++ itmCells (.slice none 0 0) (.slice none 0 0) iB).toArray 40)) (.cells #[.slice (some ⟨wD.heap.size + 1, 0, none⟩) 2 2, .string ⟨#[53]⟩] 24))).more (by simp)
  have hc : ∀ W, Below (((wD.alloc (.cells #[.string ⟨#[49, 120]⟩] 9)).alloc (.cells (itmCells (.slice (some ⟨w.heap.size, 0, none⟩) 1 1) (.slice (some ⟨wD.heap.size, 0, none⟩) 1 1) iA ++ itmCells (.slice none 0 0) (.slice none 0 0) iB).toArray 40)).alloc (.cells #[.slice (some ⟨wD.heap.size + 1, 0, none⟩) 2 2, .string ⟨#[53]⟩] 24)).heap.size (((wD.alloc (.cells #[.string ⟨#[49, 120]⟩] 9)).alloc (.cells (itmCells (.slice (some ⟨w.heap.size, 0, none⟩) 1 1) (.slice (some ⟨wD.heap.size, 0, none⟩) 1 1) iA ++ itmCells (.slice none 0 0) (.slice none 0 0) iB).toArray 40)).alloc (.cells #[.slice (some ⟨wD.heap.size + 1, 0, none⟩) 2 2, .string ⟨#[53]⟩] 24)) W → W.cell? ⟨wD.heap.size + 1 + 1, 0, none⟩ = some (.slice (some ⟨wD.heap.size + 1, 0, none⟩) 2 2) ∧ W.cell? ⟨wD.heap.size + 1 + 1, 1, none⟩ = some (.string ⟨#[53]⟩) := fun W hW => by
    have e : ((wD.alloc (.cells #[.string ⟨#[49, 120]⟩] 9)).alloc (.cells (itmCells (.slice (some ⟨w.heap.size, 0, none⟩) 1 1) (.slice (some ⟨wD.heap.size, 0, none⟩) 1 1) iA ++ itmCells (.slice none 0 0) (.slice none 0 0) iB).toArray 40)).heap.size = wD.heap.size + 1 + 1 := by simp
    rw [hW.cell (p := ⟨wD.heap.size + 1 + 1, 0, none⟩) (by simp), hW.cell (p := ⟨wD.heap.size + 1 + 1, 1, none⟩) (by simp), ← e, World.cell?_alloc_mark, World.cell?_alloc_mark]
    exact ⟨rfl, rfl⟩
  generalize ((wD.alloc (.cells #[.string ⟨#[49, 120]⟩] 9)).alloc (.cells (itmCells (.slice (some ⟨w.heap.size, 0, none⟩) 1 1) (.slice (some ⟨wD.heap.size, 0, none⟩) 1 1) iA ++ itmCells (.slice none 0 0) (.slice none 0 0) iB).toArray 40)).alloc (.cells #[.slice (some ⟨wD.heap.size + 1, 0, none⟩) 2 2, .string ⟨#[53]⟩] 24) = wR at hb hI hc ⊢
  generalize wD.heap.size + 1 + 1 = rr at hc ⊢
  generalize wD.heap.size + 1 = ii at hc hI ⊢
  have VA := Lib.hid (UA.out.keep hb)
  have VC := Lib.hid (UC.out.keep hb)
  have VD := Lib.hid (UD.out.keep hb)
  have BR := Lib.hid (BP.out.trans (hb.mono BP.out.size))
  have HI := Lib.hid hI
  have HCC := Lib.hid hc
  clear hb hI hc UA UB UC UD HITEMS HBI
  have HER := Lib.hid (HE.out.below BR.out)
  obtain ⟨pvA, hpvA⟩ : ∃ pvA, pvA = Value.slice (some ⟨w.heap.size, 0, none⟩) 1 1 := ⟨_, rfl⟩
  rw [← hpvA] at VA ⊢
  have HPV := Lib.hid hpvA; clear hpvA
  have HB0 := Lib.hid (Below.refl wR.heap.size wR)
  go_wp2_with (first
    | (refine wpList_load_mid rfl 32 (.tmp 1) rfl aA 0 rfl (urlCells pvA uA) _ (VA.out.keep HB0.out).range Tryd.underlying32 rfl (by rw [urlCells_len _ _ VA.out.ok]; kernel_rfl) ?_)
    | (refine wpList_load_g (by rfl) 32 (.tmp 1) rfl aA 0 rfl (urlCells pvA uA) _ (VA.out.keep HB0.out).range Tryd.underlying32 rfl (by rw [urlCells_len _ _ VA.out.ok]; kernel_rfl) ?_)
    | fail)
  refine (sm_fits uA true fA smA (VA.out.keep HB0.out) (HER.out.below HB0.out)).mono ?_
  rintro e x1 ⟨rfl, hb⟩
  have HB1 := Lib.hid (HB0.out.trans (hb.mono HB0.out.size)); clear hb
  go_wp2_with (first
    | (refine wpList_load_mid rfl 32 (.tmp 3) rfl aC 0 rfl (urlCells (.slice none 0 0) (uO [121, 44])) _ (VC.out.keep HB1.out).range Tryd.underlying32 rfl (by rw [urlCells_len _ _ VC.out.ok]; kernel_rfl) ?_)
    | (refine wpList_load_g (by rfl) 32 (.tmp 3) rfl aC 0 rfl (urlCells (.slice none 0 0) (uO [121, 44])) _ (VC.out.keep HB1.out).range Tryd.underlying32 rfl (by rw [urlCells_len _ _ VC.out.ok]; kernel_rfl) ?_)
    | fail)
  refine (sm_fits (uO [121, 44]) false fC (smO _ (by simp)) (VC.out.keep HB1.out) (HER.out.below HB1.out)).mono ?_
  rintro e x2 ⟨rfl, hb⟩
  have HB2 := Lib.hid (HB1.out.trans (hb.mono HB1.out.size)); clear hb
  go_wp2_with (first
    | (refine wpList_load_mid rfl 32 (.tmp 4) rfl aD 0 rfl (urlCells (.slice none 0 0) (uO [121, 32, 122])) _ (VD.out.keep HB2.out).range Tryd.underlying32 rfl (by rw [urlCells_len _ _ VD.out.ok]; kernel_rfl) ?_)
    | (refine wpList_load_g (by rfl) 32 (.tmp 4) rfl aD 0 rfl (urlCells (.slice none 0 0) (uO [121, 32, 122])) _ (VD.out.keep HB2.out).range Tryd.underlying32 rfl (by rw [urlCells_len _ _ VD.out.ok]; kernel_rfl) ?_)
    | fail)
  refine (sm_fits (uO [121, 32, 122]) false fD (smO _ (by simp)) (VD.out.keep HB2.out) (HER.out.below HB2.out)).mono ?_
  rintro e x3 ⟨rfl, hb⟩
  have HB3 := Lib.hid (HB2.out.trans (hb.mono HB2.out.size)); clear hb
  obtain ⟨c0, c1⟩ := HCC.out _ HB3.out
  go_wp2_with fail
  clear c0 c1
  refine (sm_write 2 _ w2 ((HI.out.below HB3.out).more HB3.out.size) (HER.out.below HB3.out) _ rfl ⟨#[104, 116, 116, 112, 58, 47, 47, 97, 47, 63, 98, 38, 97, 109, 112, 59, 99, 32, 49, 120, 44, 32, 120, 58, 121]⟩ rfl).mono ?_
  rintro e x4 ⟨rfl, hb⟩
  have HB4 := Lib.hid (HB3.out.trans (hb.mono HB3.out.size)); clear hb
  obtain ⟨c0, c1⟩ := HCC.out _ HB4.out
  go_wp2_with fail
  clear c0 c1
  refine (sm_write 1 _ w1 ((HI.out.below HB4.out).more HB4.out.size) (HER.out.below HB4.out) _ rfl ⟨#[104, 116, 116, 112, 58, 47, 47, 97, 47, 63, 98, 38, 97, 109, 112, 59, 99]⟩ rfl).mono ?_
  rintro e x5 ⟨rfl, hb⟩
  have HB5 := Lib.hid (HB4.out.trans (hb.mono HB4.out.size)); clear hb
  obtain ⟨c0, c1⟩ := HCC.out _ HB5.out
  go_wp2_with fail
  clear c0 c1
  refine (sm_write 3 _ w3 ((HI.out.below HB5.out).more HB5.out.size) (HER.out.below HB5.out) _ rfl ⟨#[53, 59, 32, 117, 114, 108, 61, 104, 116, 116, 112, 58, 47, 47, 97, 47, 63, 98, 38, 97, 109, 112, 59, 99]⟩ rfl).mono ?_
  rintro e x6 ⟨rfl, hb⟩
  have HB6 := Lib.hid (HB5.out.trans (hb.mono HB5.out.size)); clear hb
  obtain ⟨c0, c1⟩ := HCC.out _ HB6.out
  go_wp2_with fail
  clear c0 c1
  refine (sm_write 0 _ w0 ((HI.out.below HB6.out).more HB6.out.size) (HER.out.below HB6.out) _ rfl ⟨#[]⟩ rfl).mono ?_
  rintro e x7 ⟨rfl, hb⟩
  have HB7 := Lib.hid (HB6.out.trans (hb.mono HB6.out.size)); clear hb
  go_wp2_with fail
  refine (sm_none 1 (HER.out.below HB7.out)).mono ?_
  rintro e x8 ⟨rfl, hb⟩
  have HB8 := Lib.hid (HB7.out.trans (hb.mono HB7.out.size)); clear hb
  go_wp2_with fail
  go_ret
  exact ⟨ret1_bool (by simp), BR.out.trans (HB8.out.mono BR.out.size)⟩
end Go.Proofs.YtcmpjklkdmpglaaDoor
