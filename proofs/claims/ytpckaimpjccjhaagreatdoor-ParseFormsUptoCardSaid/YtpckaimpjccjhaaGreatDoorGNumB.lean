/- NumB NumC NumD NumE NumF HstW: joined. -/
import Derived.Shelf.Strconv.AppendUint10
import Derived.Lib.SmallJoins
import Derived.Laws.BitsLemmas
import Derived.Deep.DeepCutAuto
import Derived.Test.YtpckaimpjccjhaaGreatDoorGNumA
import Derived.Test.YtpckaimpjccjhaaGreatDoorShelf
import Derived.Test.YtpckaimpjccjhaaGreatDoorGArr
import Derived.Test.YtpckaimpjccjhaaGreatDoorGReg
set_option maxHeartbeats 40000000
namespace Go.Proofs.YtpckaimpjccjhaaGreatDoor
open Go.RowKit
set_option maxRecDepth 10000
structure NE (w : World) : Prop where
 tab : Lib.TabIs Tryz.prog w "internal/strconv.uint64pow10" .u64 Lib.pow10Tab
 tz : w.cell? ⟨5, 15, none⟩ = some (.int .u8 4)
theorem NE.below {w w' : World} (h : NE w) (hb : Below w.heap.size w w') : NE w' :=
 ⟨Lib.tabBelow_of_tabIs h.tab w' hb, by
  have h2 := h.tz
  have hlt : 5 < w.heap.size := by
   rcases Nat.lt_or_ge 5 w.heap.size with hlt | hge
   ·exact hlt
   ·simp [World.cell?, Array.getElem?_eq_none hge] at h2
  exact (hb.cell (p := ⟨5, 15, none⟩) hlt).trans h2⟩
theorem tz64_16 (w : World) (h : NE w) : Calls Tryz.prog 209 #[.int .u64 16] w fun e w' => e = .returned (.int .i64 4) ∧ w' = w := by
 have htz := h.tz
 clear h
 have z1 : IntKind.u64.wrap (-16) = 18446744073709551600 := by decide +kernel
 have z2 : bits BinOp.and IntKind.u64 16 18446744073709551600 = 16 := by decide +kernel
 have z3 : IntKind.u64.wrap (16 * 285870213051353865) = 4573923408821661840 := by decide +kernel
 have z4 : (4573923408821661840 : Int) / 288230376151711744 = 15 := by decide +kernel
 go_enter Tryz.func209, Tryz.ntmps209
 go_wp2_with fail
 go_ret
 exact ⟨rfl, rfl⟩
theorem tz_16 (w : World) (h : NE w) : Calls Tryz.prog 202 #[.int .u64 16] w fun e w' => e = .returned (.int .i64 4) ∧ w' = w := by
 have htz := tz64_16 w h
 have HT := h_ htz; clear htz
 go_enter Tryz.func202, Tryz.ntmps202
 go_wp2_with (first | (go_at_call 209; refine HT.out.mono ?_; rintro e w2 ⟨rfl, rfl⟩) | fail)
 go_ret
 exact ⟨rfl, rfl⟩
theorem pow2_16 (w : World) : Calls Tryz.prog 201 #[.int .i64 16] w fun e w' => e = .returned (.bool true) ∧ w' = w := by
 have z1 : bits BinOp.and IntKind.i64 16 15 = 0 := by decide +kernel
 go_enter Tryz.func201, Tryz.ntmps201
 go_wp2_with fail
 go_ret
 exact ⟨rfl, rfl⟩
def hexd (n : Nat) : UInt8 := UInt8.ofNat (if n < 10 then 48 + n else 87 + n)
def hexF (u : Nat) : Bytes := if _h : u < 16 then [hexd u] else hexF (u / 16) ++ [hexd (u % 16)]
termination_by u
decreasing_by omega
theorem hex_small {u : Nat} (h : u < 16) : hexF u = [hexd u] := by rw [hexF, dif_pos h]
theorem hex_big {u : Nat} (h : ¬ u < 16) : hexF u = hexF (u / 16) ++ [hexd (u % 16)] := by rw [hexF, dif_neg h]
def Z65 : Array Value := Array.replicate 65 (.int .u8 0)
theorem all65 (w : World) : (Instr.alloc 189 true (Value.tuple #[])).run Tryz.prog w = .ok (.pointer (some ⟨w.heap.size, 0, none⟩)) (w.alloc (.cells Z65 189)) := by kernel_rfl
structure D65 (w : World) (b : Nat) (l : Bytes) (wr : World) : Prop where
 blk : ∃ c, wr.heap[b]? = some (.cells c 189 (0, 0)) ∧ c.size = 65 ∧ ∀ t (h : t < l.length), c[65 - l.length + t]? = some (.int .u8 (b2 l[t]))
 bel : Below w.heap.size w wr
theorem D65.fresh (w : World) : D65 w w.heap.size [] (w.alloc (.cells Z65 189)) :=
 ⟨⟨_, heap_alloc_new w _, by simp [Z65], fun t h => by simp at h⟩, (Below.refl _ _).alloc (Nat.le_refl _) _⟩
theorem D65.cell {w wr : World} {b : Nat} {l : Bytes} (h : D65 w b l wr) (i : Nat) (hi : i < 65) : (∃ v, wr.cell? ⟨b, i, none⟩ = some v) ∧ wr.frozen? ⟨b, i, none⟩ = false := by
 obtain ⟨⟨c, h1, h2, _⟩, _⟩ := h
 refine ⟨⟨c[i], ?_⟩, Go.Joins.unfrozen_of_block h1 i⟩
 rw [Go.Joins.cell_of_block h1]
 simp [h2, hi]
theorem D65.put {w wr : World} {b : Nat} {l : Bytes} (h : D65 w b l wr) (hb : w.heap.size <= b) (x : UInt8) (hl : l.length < 65) (i : Nat) (hi : i = 64 - l.length) : D65 w b (x :: l) (wr.setCell ⟨b, i, none⟩ (.int .u8 (b2 x))) := by
 obtain ⟨⟨c, h1, h2, h3⟩, h4⟩ := h
 subst hi
 refine ⟨⟨_, Go.Joins.block_setCell h1 _, by simp [h2], fun t ht => ?_⟩, h4.setCell hb _⟩
 rw [Array.getElem?_setIfInBounds]
 simp only [List.length_cons] at ht ⊢
 cases t with
 | zero =>
  rw [if_pos (by omega), if_pos (by omega)]
  rfl
 | succ t =>
  rw [if_neg (by omega)]
  have := h3 t (by omega)
  rw [show 65 - (l.length + 1) + (t + 1) = 65 - l.length + t by omega, this]
  rfl
theorem D65.at {w wr : World} {b : Nat} {l : Bytes} (h : D65 w b l wr) (_ : l.length <= 65) : At wr b (65 - l.length) (Lib.byteCells l) := by
 obtain ⟨⟨c, h1, h2, h3⟩, _⟩ := h
 intro j hj
 have hj' : j < l.length := by simpa [Lib.byteCells] using hj
 rw [Go.Joins.cell_of_block h1, h3 j hj']
 simp [Lib.byteCells, b2]
theorem mask15 (v : Nat) (hv : v < 65536) : bits BinOp.and IntKind.u64 (v : Int) 15 = ((v % 16 : Nat) : Int) := by
 have h := bits_mask .u64 63 (by decide) (fun n h0 h1 => by rw [IntKind.wrap_u64]; omega) 4 (by decide) (v : Int) (by omega) (by omega)
 have e : ((2 : Int) ^ 4 - 1) = 15 := by decide
 have e2 : ((2 : Int) ^ 4) = 16 := by decide
 rw [e, e2] at h
 rw [h]
 omega
theorem digit36 : ∀ k : Fin 16, ((⟨#[48, 49, 50, 51, 52, 53, 54, 55, 56, 57, 97, 98, 99, 100, 101, 102, 103, 104, 105, 106, 107, 108, 109, 110, 111, 112, 113, 114, 115, 116, 117, 118, 119, 120, 121, 122]⟩ : ByteArray)[k.val]'(by have := k.isLt; show k.val < 36; omega)) = hexd k.val := by decide +kernel
theorem fbits_any (u : Nat) (hu : u < 65536) (sv : Value) (n : Nat) (l : Bytes) (B : Nat) (w : World) (hE : NE w) (hB : B <= w.heap.size) (hown : w.ownsRow B 5 1 sv n (Lib.byteCells l)) (hlim : n <= 1024000000) :
  Calls Tryz.prog 180 #[sv, .int .u64 u, .int .i64 16, .bool false, .bool true] w fun e w' => ∃ v' s, e = .returned (.tuple #[v', s]) ∧ w'.ownsRow B 5 1 v' (n + (hexF u).length) (Lib.byteCells (l ++ hexF u)) ∧ Below B w w' := by
 obtain ⟨i0, hi0, hz0, hz1, hz2⟩ := info_parts u8_info
 have htz := fun W (h : NE W) => tz_16 W h
 have HTZ := h_ htz; clear htz
 have HP2 := h_ (fun W => pow2_16 W)
 have HE := h_ hE; clear hE
 have HO := h_ hown; clear hown
 go_enter Tryz.func180, Tryz.ntmps180
 go_wp2_with (first
  | (refine alloc_to rfl 189 rfl _ _ (all65 _) ?_)
  | (go_at_call 201; refine (HP2.out _).mono ?_; rintro e w2 ⟨rfl, hw2⟩; subst hw2)
  | (go_at_call 202; refine (HTZ.out _ (HE.out.below ((Below.refl _ _).alloc (Nat.le_refl _) _))).mono ?_; rintro e w2 ⟨rfl, hw2⟩; subst hw2)
  | fail)
 obtain ⟨b, hb⟩ := ex_ (w.heap.size)
 rw [<- hb]
 have hD0 := D65.fresh w
 rw [<- hb] at hD0
 have HB := h_ hb; clear hb
 have HD0 := h_ hD0; clear hD0
 go_loopw [1, 13] (fun uv iv wr => ∃ (v : Nat) (t : Bytes), uv = .int .u64 v ∧ iv = .int .i64 (65 - t.length : Nat) ∧ Hid (hexF v ++ t = hexF u) ∧ Hid (t.length <= 3 ∧ v < 16 ^ (4 - t.length)) ∧ Hid (D65 w b t wr)) (fun uv _ _ => (intOf uv).toNat)
 case atStart => exact ⟨u, [], rfl, rfl, List.append_nil _, ⟨by simp, by simpa using hu⟩, HD0.out⟩
 case round =>
  obtain ⟨v, t, rfl, rfl, hx, hl, hd⟩ := hrel
  obtain ⟨hl1, hl2⟩ := hl.out
  have hv : v < 65536 := Nat.lt_of_lt_of_le hl2 (Nat.pow_le_pow_right (n := 16) (by omega) (show 4 - t.length <= 4 by omega))
  obtain ⟨I, hI⟩ : ∃ I : Int, I = ((65 - t.length : Nat) : Int) := ⟨_, rfl⟩
  obtain ⟨J, hJ⟩ : ∃ J : Nat, J = 64 - t.length := ⟨_, rfl⟩
  have hIJ : I - 1 = (J : Int) := by omega
  have hJb : J < 65 := by omega
  have hIb : 1 <= I ∧ I <= 65 := by omega
  obtain ⟨⟨v0, c1⟩, f1⟩ := hd.out.cell J hJb
  rw [<- hI]
  have HI := h_ hI; clear hI
  have HJ := h_ hJ; clear hJ hl1 hl2
  by_cases h16 : (16 : Int) <= v
  ·obtain ⟨r, hr⟩ : ∃ r : Nat, r = v % 16 := ⟨_, rfl⟩
   have hand : bits BinOp.and IntKind.u64 (v : Int) 15 = (r : Int) := by rw [mask15 v hv, hr]
   have hr16 : r < 16 := by omega
   have HR := h_ hr; clear hr
   go_wp2_with fail
   go_roundw
   case rel =>
    have hd2 := hd.out.put (by have := HB.out; omega) (hexd r) (by have := hl.out; omega) J HJ.out
    refine ⟨v / 16, hexd r :: t, by simp, ?_, ?_, ?_, ?_⟩
    ·rw [List.length_cons, show 65 - (t.length + 1) = J by have := HJ.out; omega]
    ·show hexF (v / 16) ++ hexd r :: t = hexF u
     rw [<- hx.out, hex_big (show ¬ v < 16 by omega), HR.out]
     simp
    ·have hl2 := hl.out.2
     have h3 : t.length <= 2 := by
      rcases Nat.lt_or_ge t.length 3 with h | h
      ·omega
      ·rw [show 4 - t.length = 1 by have := hl.out.1; omega] at hl2
       omega
     refine ⟨by rw [List.length_cons]; omega, ?_⟩
     rw [List.length_cons, show 4 - t.length = (4 - (t.length + 1)) + 1 by omega, Nat.pow_succ] at *
     omega
    ·have e := digit36 ⟨r, hr16⟩
     simp only at e
     rw [e]
     exact hd2
   case measure => simp [intOf]; omega
  ·have hv16 : v < 16 := by omega
   have hsl : ∀ W, (Instr.sliceAt 189 (.pointer (some ⟨b, 0, none⟩)) (some (.int .i64 (J : Int))) none none).run Tryz.prog W = .ok (.slice (some ⟨b, J, none⟩) (65 - J) (65 - J)) W := fun W => by
    rw [run_sliceAt_array_l W 189 ⟨b, 0, none⟩ (by simp [Program.arrayLen, Program.elem, Tryz.underlying189]) .i64 (J : Int) (by omega) (by simp [Program.arrayLen, Tryz.underlying189]; omega)]
    have he : Tryz.prog.elem 189 = 5 := by simp [Program.elem, Tryz.underlying189]
    have hal : Tryz.prog.arrayLen 189 = 65 := by simp [Program.arrayLen, Tryz.underlying189]
    simp [sizeOf, typeInfo, he, hal, hi0, hz1, slicedAt, addr_add]
    omega
   have hd2 := hd.out.put (by have := HB.out; omega) (hexd v) (by have := hl.out; omega) J HJ.out
   have hD : hexd v :: t = hexF u := by have := hx.out; rw [hex_small hv16] at this; exact this
   have hDl : 65 - J = (hexF u).length := by rw [<- hD, List.length_cons]; have := HJ.out; have := hl.out; omega
   have hDm : (hexF u).length <= 4 := by rw [<- hD, List.length_cons]; have := hl.out; omega
   have hat := hd2.at (by rw [List.length_cons]; have := hl.out; omega)
   rw [hD] at hd2 hat
   rw [show 65 - (hexF u).length = J by omega] at hat
   have e36 := digit36 ⟨v, hv16⟩
   simp only at e36
   rw [<- e36] at hd2 hat
   rw [hDl] at hsl
   obtain ⟨D, hDD⟩ := ex_ (hexF u)
   rw [<- hDD] at hd2 hat hsl hDl hDm ⊢
   have HDD := h_ hDD
   clear hDD hD e36
   have hbel := hd2.bel
   have HO2 := h_ (HO.out.kept (row := none) ⟨hbel.os, hbel.tape, hbel.output, hbel.size, fun k hk _ => hbel.block k hk⟩ (by cases hv : sv.ownBlock <;> simp))
   have HBL := h_ hbel; clear hbel
   have HAT := h_ hat; clear hat
   clear hd2 hDl
   have hn := HO.out.1
   rw [Lib.byteCells_length] at hn
   have HN := h_ hn; clear hn
   go_wp2_with (first
    | (at_builtin; refine wpList_append_own _ rfl _ _ 38 rfl B 5 i0 (.int .u8 0) 1 1 Tryz.underlying38 hi0 hz0 hz1 hz2 rfl (by decide) _ _ _ rfl HO2.out ⟨b, J, none⟩ D.length D.length (Lib.byteCells D) rfl ?c0 ?c1 ?c2 ?c3 ?c4 ?c5 ?_)
    | fail)
   case c0 => rw [Lib.byteCells_length, Nat.mul_one]
   case c1 =>
    intro j u' hj
    have hjl := (List.getElem?_eq_some_iff.1 hj).1
    rw [addr_add]
    rw [List.getElem?_eq_getElem hjl] at hj
    exact Eq.trans (HAT.out j hjl) hj
   case c2 => intro u' hu'; simp only [Lib.byteCells, List.mem_map] at hu'; obtain ⟨_, _, rfl⟩ := hu'; rfl
   case c3 => unfold maxLen; omega
   case c4 => omega
   case c5 => exact Nat.le_trans hB HBL.out.size
   intro v' w' ho' hg' _
   go_wp2_with fail
   go_ret2
   have hcc : Lib.byteCells l ++ Lib.byteCells D = Lib.byteCells (l ++ D) := by simp [Lib.byteCells]
   rw [hcc] at ho'
   rw [<- HDD.out]
   exact ⟨v', _, rfl, ho', (HBL.out.mono hB).grown hg' (Nat.le_trans hB HBL.out.size) (fun k hk => (HO2.out.lt k hk).1)⟩
theorem au16_any (u : Nat) (hu : u < 65536) (sv : Value) (n : Nat) (l : Bytes) (B : Nat) (w : World) (hE : NE w) (hB : B <= w.heap.size) (hown : w.ownsRow B 5 1 sv n (Lib.byteCells l)) (hlim : n <= 1024000000) :
  Calls Tryz.prog 143 #[sv, .int .u64 u, .int .i64 16] w fun e w' => ∃ v', e = .returned v' ∧ w'.ownsRow B 5 1 v' (n + (hexF u).length) (Lib.byteCells (l ++ hexF u)) ∧ Below B w w' := by
 have hf := fbits_any u hu sv n l B w hE hB hown hlim
 have hin : Calls Tryz.prog 176 #[sv, .int .u64 u, .int .i64 16] w fun e w' => ∃ v', e = .returned v' ∧ w'.ownsRow B 5 1 v' (n + (hexF u).length) (Lib.byteCells (l ++ hexF u)) ∧ Below B w w' := by
  have HF := h_ hf; clear hf hE hown
  go_enter Tryz.func176, Tryz.ntmps176
  go_wp2_with (first | (go_at_call 180; refine HF.out.mono ?_; rintro e w2 ⟨v2, s2, rfl, ho2, hb2⟩; have HO2 := h_ ho2; have HB2 := h_ hb2; clear ho2 hb2) | fail)
  go_ret
  exact ⟨v2, rfl, HO2.out, HB2.out⟩
 have HI := h_ hin; clear hin hf hE hown
 go_enter Tryz.func143, Tryz.ntmps143
 go_wp2_with (first | (go_at_call 176; refine HI.out.mono ?_; rintro e w2 ⟨v2, rfl, ho2, hb2⟩; have HO2 := h_ ho2; have HB2 := h_ hb2; clear ho2 hb2) | fail)
 go_ret
 exact ⟨v2, rfl, HO2.out, HB2.out⟩
theorem au10_any (u : Nat) (hu : u < 18446744073709551616) (sv : Value) (n : Nat) (l : Bytes) (B : Nat) (w : World) (hE : NE w) (hB : B <= w.heap.size) (hown : w.ownsRow B 5 1 sv n (Lib.byteCells l)) (hlim : n <= 1024000000) :
  Calls Tryz.prog 143 #[sv, .int .u64 u, .int .i64 10] w fun e w' => ∃ v', e = .returned v' ∧ w'.ownsRow B 5 1 v' (n + (Lib.decDigits u).length) (Lib.byteCells (l ++ Lib.decDigits u)) ∧ Below B w w' := by
 have hin : Calls Tryz.prog 176 #[sv, .int .u64 u, .int .i64 10] w fun e w' => ∃ v', e = .returned v' ∧ w'.ownsRow B 5 1 v' (n + (Lib.decDigits u).length) (Lib.byteCells (l ++ Lib.decDigits u)) ∧ Below B w w' := by
  have hcc : Lib.byteCells l ++ Lib.byteCells (Lib.decDigits u) = Lib.byteCells (l ++ Lib.decDigits u) := by simp [Lib.byteCells]
  rw [<- hcc]
  by_cases h : u < 100
  ·exact (Any.internal_strconv_AppendUint_10_small Tryz.laysAU B n u h sv _ w hown hB (by omega)).mono fun e w' ⟨v', h1, h2, h3, _⟩ => ⟨v', h1, h2, h3⟩
  ·exact (Any.internal_strconv_AppendUint_10_big Tryz.laysAU B n u (by omega) hu sv _ w hown hB (by omega) hE.tab).mono fun e w' ⟨v', h1, h2, h3, _⟩ => ⟨v', h1, h2, h3⟩
 have HI := h_ hin; clear hin hE hown
 go_enter Tryz.func143, Tryz.ntmps143
 go_wp2_with (first | (go_at_call 176; refine HI.out.mono ?_; rintro e w2 ⟨v2, rfl, ho2, hb2⟩; have HO2 := h_ ho2; have HB2 := h_ hb2; clear ho2 hb2) | fail)
 go_ret
 exact ⟨v2, rfl, HO2.out, HB2.out⟩

theorem mask255 (v : Nat) (hv : v < 4294967296) : bits BinOp.and IntKind.u32 (v : Int) 255 = ((v % 256 : Nat) : Int) := by
 have h := bits_mask .u32 32 (by decide) (fun n h0 h1 => by rw [IntKind.wrap_u32]; omega) 8 (by decide) (v : Int) (by omega) (by omega)
 have e : ((2 : Int) ^ 8 - 1) = 255 := by decide
 have e2 : ((2 : Int) ^ 8) = 256 := by decide
 rw [e, e2] at h
 rw [h]
 omega
def fourF (n : Nat) : Bytes := Lib.decDigits (n / 16777216) ++ [46] ++ Lib.decDigits (n / 65536 % 256) ++ [46] ++ Lib.decDigits (n / 256 % 256) ++ [46] ++ Lib.decDigits (n % 256)
theorem dec3 {u : Nat} (h : u < 256) : (Lib.decDigits u).length <= 3 := dec_len_le 2 u (by omega)
def fourK (n : Nat) : Nat -> Bytes
 | 0 => []
 | 1 => Lib.decDigits (n / 16777216) ++ [46]
 | 2 => Lib.decDigits (n / 16777216) ++ [46] ++ Lib.decDigits (n / 65536 % 256) ++ [46]
 | 3 => Lib.decDigits (n / 16777216) ++ [46] ++ Lib.decDigits (n / 65536 % 256) ++ [46] ++ Lib.decDigits (n / 256 % 256) ++ [46]
 | _ => fourF n
theorem fourK_len (n : Nat) (hn : n < 4294967296) (k : Nat) : (fourK n k).length <= 15 := by
 have h1 := dec3 (u := n / 16777216) (by omega)
 have h2 := dec3 (u := n / 65536 % 256) (by omega)
 have h3 := dec3 (u := n / 256 % 256) (by omega)
 have h4 := dec3 (u := n % 256) (by omega)
 unfold fourK fourF
 split <;> simp only [List.length_append, List.length_cons, List.length_nil] <;> omega
theorem fourF_len (n : Nat) (hn : n < 4294967296) : (fourF n).length <= 15 := fourK_len n hn 4
theorem fwrite_any (n : Nat) (hn : n < 4294967296) (w : World) (hE : NE w) :
  Calls Tryz.prog 115 #[.int .u32 n] w fun e w' => e = .returned (S (fourF n)) ∧ Below w.heap.size w w' := by
 obtain ⟨i0, hi0, hz0, hz1, hz2⟩ := info_parts u8_info
 have hau := fun (u : Nat) (hu : u < 256) (sv : Value) (l : Bytes) (W : World) (hb : Below w.heap.size w W) (ho : W.ownsRow w.heap.size 5 1 sv l.length (Lib.byteCells l)) (hl : l.length <= 15) =>
  au10_any u (by omega) sv l.length l w.heap.size W (hE.below hb) hb.size ho (by omega)
 have HAU := h_ hau; clear hau hE
 have hfk := fourK_len n hn
 have hA0 : n / 16777216 < 256 := by omega
 have hA1 : n / 65536 % 256 < 256 := by omega
 have hA2 : n / 256 % 256 < 256 := by omega
 have hA3 : n % 256 < 256 := by omega
 have m0 : bits BinOp.and IntKind.u32 ((n : Int) / 16777216) 255 = ((n / 16777216 : Nat) : Int) := by
  have h := mask255 (n / 16777216) (by omega)
  rw [Nat.mod_eq_of_lt hA0] at h
  exact h
 have m1 : bits BinOp.and IntKind.u32 ((n : Int) / 65536) 255 = ((n / 65536 % 256 : Nat) : Int) := mask255 (n / 65536) (by omega)
 have m2 : bits BinOp.and IntKind.u32 ((n : Int) / 256) 255 = ((n / 256 % 256 : Nat) : Int) := mask255 (n / 256) (by omega)
 have m3 : bits BinOp.and IntKind.u32 (n : Int) 255 = ((n % 256 : Nat) : Int) := mask255 n (by omega)
 have x0 : fourK n 1 = fourK n 0 ++ Lib.decDigits (n / 16777216) ++ [46] := rfl
 have x1 : fourK n 2 = fourK n 1 ++ Lib.decDigits (n / 65536 % 256) ++ [46] := rfl
 have x2 : fourK n 3 = fourK n 2 ++ Lib.decDigits (n / 256 % 256) ++ [46] := rfl
 have x3 : fourK n 4 = fourK n 3 ++ Lib.decDigits (n % 256) := rfl
 have x4 : fourF n = fourK n 4 := rfl
 have x5 : fourK n 0 = [] := rfl
 rw [x4]
 generalize n / 16777216 = a0 at hA0 m0 x0
 generalize n / 65536 % 256 = a1 at hA1 m1 x1
 generalize n / 256 % 256 = a2 at hA2 m2 x2
 generalize n % 256 = a3 at hA3 m3 x3
 have e0 := dec3 hA0
 have e1 := dec3 hA1
 have e2 := dec3 hA2
 have e3 := dec3 hA3
 have hni : (n : Int) < 4294967296 := by omega
 generalize fourK n = K at hfk x0 x1 x2 x3 x5 ⊢
 clear x4
 have HX0 := h_ x0; clear x0
 have HX1 := h_ x1; clear x1
 have HX2 := h_ x2; clear x2
 have HX3 := h_ x3; clear x3
 have HX5 := h_ x5; clear x5
 have HK := h_ hfk; clear hfk
 have HE0 := h_ e0; clear e0
 have HE1 := h_ e1; clear e1
 have HE2 := h_ e2; clear e2
 have HE3 := h_ e3; clear e3
 go_enter Tryz.func115, Tryz.ntmps115
 go_wp2_with fail
 go_loopw [3, 4] (fun ov sv wr => ∃ k : Nat, Hid (((k = 0 ∧ sv = .int .i64 24) ∨ (k = 1 ∧ sv = .int .i64 16) ∨ (k = 2 ∧ sv = .int .i64 8) ∨ (k = 3 ∧ sv = .int .i64 0) ∨ (k = 4 ∧ sv = .int .i64 (-8))) ∧ wr.ownsRow w.heap.size 5 1 ov (K k).length (Lib.byteCells (K k)) ∧ Below w.heap.size w wr)) (fun _ s _ => (intOf s + 8).toNat)
 case atStart =>
  refine ⟨0, .inl ⟨rfl, rfl⟩, ?_, Below.refl _ _⟩
  rw [HX5.out]
  exact ⟨by simp [Lib.byteCells], .inl ⟨rfl, rfl⟩⟩
 case round =>
  obtain ⟨k, hk⟩ := hrel
  obtain ⟨hk, ho, hb⟩ := hk.out
  have HO := h_ ho; clear ho
  have HB := h_ hb; clear hb
  rcases hk with ⟨rfl, rfl⟩ | ⟨rfl, rfl⟩ | ⟨rfl, rfl⟩ | ⟨rfl, rfl⟩ | ⟨rfl, rfl⟩
  ·have hl := HK.out 0
   go_wp2_with (first
    | (go_at_call 143; refine (HAU.out a0 hA0 _ _ _ HB.out HO.out hl).mono ?_; rintro e w2 ⟨v2, rfl, ho2, hb2⟩; have HO2 := h_ ho2; clear ho2; have HB2 := h_ (HB.out.trans hb2); clear hb2; have hwz := HB2.out.size)
    | (at_builtin; (refine push1 rfl (.tmp 18) (.tmp 19) _ rfl w.heap.size 5 i0 (.int .u8 0) 1 Tryz.underlying38 hi0 hz0 hz1 hz2 (by decide) _ _ _ _ rfl HO2.out (.int .u8 46) rfl rfl (by have := HE0.out; omega) (by decide) hwz ?_); intro v3 w3 hown3 hw3 hb3; have HO3 := h_ hown3; clear hown3; have HB3 := h_ hb3; clear hb3)
    | fail)
   go_roundw
   case rel =>
    refine ⟨1, .inr <| .inl ⟨rfl, rfl⟩, ?_, HB2.out.trans HB3.out⟩
    rw [HX0.out, show ([46] : Bytes) = [(46 : UInt8)] from rfl, bytes_snoc, List.length_append, List.length_append]
    exact HO3.out
   case measure => simp [intOf]
  ·have hl := HK.out 1
   go_wp2_with (first
    | (go_at_call 143; refine (HAU.out a1 hA1 _ _ _ HB.out HO.out hl).mono ?_; rintro e w2 ⟨v2, rfl, ho2, hb2⟩; have HO2 := h_ ho2; clear ho2; have HB2 := h_ (HB.out.trans hb2); clear hb2; have hwz := HB2.out.size)
    | (at_builtin; (refine push1 rfl (.tmp 18) (.tmp 19) _ rfl w.heap.size 5 i0 (.int .u8 0) 1 Tryz.underlying38 hi0 hz0 hz1 hz2 (by decide) _ _ _ _ rfl HO2.out (.int .u8 46) rfl rfl (by have := HE1.out; omega) (by decide) hwz ?_); intro v3 w3 hown3 hw3 hb3; have HO3 := h_ hown3; clear hown3; have HB3 := h_ hb3; clear hb3)
    | fail)
   go_roundw
   case rel =>
    refine ⟨2, .inr <| .inr <| .inl ⟨rfl, rfl⟩, ?_, HB2.out.trans HB3.out⟩
    rw [HX1.out, show ([46] : Bytes) = [(46 : UInt8)] from rfl, bytes_snoc, List.length_append, List.length_append]
    exact HO3.out
   case measure => simp [intOf]
  ·have hl := HK.out 2
   go_wp2_with (first
    | (go_at_call 143; refine (HAU.out a2 hA2 _ _ _ HB.out HO.out hl).mono ?_; rintro e w2 ⟨v2, rfl, ho2, hb2⟩; have HO2 := h_ ho2; clear ho2; have HB2 := h_ (HB.out.trans hb2); clear hb2; have hwz := HB2.out.size)
    | (at_builtin; (refine push1 rfl (.tmp 18) (.tmp 19) _ rfl w.heap.size 5 i0 (.int .u8 0) 1 Tryz.underlying38 hi0 hz0 hz1 hz2 (by decide) _ _ _ _ rfl HO2.out (.int .u8 46) rfl rfl (by have := HE2.out; omega) (by decide) hwz ?_); intro v3 w3 hown3 hw3 hb3; have HO3 := h_ hown3; clear hown3; have HB3 := h_ hb3; clear hb3)
    | fail)
   go_roundw
   case rel =>
    refine ⟨3, .inr <| .inr <| .inr <| .inl ⟨rfl, rfl⟩, ?_, HB2.out.trans HB3.out⟩
    rw [HX2.out, show ([46] : Bytes) = [(46 : UInt8)] from rfl, bytes_snoc, List.length_append, List.length_append]
    exact HO3.out
   case measure => simp [intOf]
  ·have hl := HK.out 3
   go_wp2_with (first
    | (go_at_call 143; refine (HAU.out a3 hA3 _ _ _ HB.out HO.out hl).mono ?_; rintro e w2 ⟨v2, rfl, ho2, hb2⟩; have HO2 := h_ ho2; clear ho2; have HB2 := h_ (HB.out.trans hb2); clear hb2; have hwz := HB2.out.size)
    | fail)
   go_roundw
   case rel =>
    refine ⟨4, .inr <| .inr <| .inr <| .inr ⟨rfl, rfl⟩, ?_, HB2.out⟩
    rw [HX3.out, List.length_append]
    exact HO2.out
   case measure => simp [intOf]
  ·have hcv := conv_own (P := Tryz.prog) (src := 38) (dst := 9) Tryz.underlying38 Tryz.underlying5 Tryz.underlying9 HO.out
   go_wp2_with fail
   go_ret
   exact ⟨rfl, HB.out⟩

def runE (z : List Bool) (j : Nat) : Nat := j + ((z.drop j).takeWhile id).length
theorem runE_step {z : List Bool} {j : Nat} (hj : j < z.length) (h : z[j] = true) : runE z j = runE z (j + 1) := by
 unfold runE
 rw [List.drop_eq_getElem_cons hj, List.takeWhile_cons, h]
 simp
 omega
theorem runE_stop {z : List Bool} {j : Nat} (hj : j < z.length) (h : z[j] = false) : runE z j = j := by
 unfold runE
 rw [List.drop_eq_getElem_cons hj, List.takeWhile_cons, h]
 simp
theorem runE_end {z : List Bool} {j : Nat} (hj : z.length <= j) : runE z j = j := by
 unfold runE
 rw [List.drop_eq_nil_of_le hj]
 simp
def lrGo (z : List Bool) : Nat -> Nat -> Nat -> Nat -> Nat × Nat
 | 0, _, b, e => (b, e)
 | f + 1, i, b, e => if i < 8 then (if 2 <= runE z i - i ∧ e - b < runE z i - i then lrGo z f (runE z i + 1) i (runE z i) else lrGo z f (runE z i + 1) b e) else (b, e)
def lrP (z : List Bool) : Nat × Nat := lrGo z 9 0 0 0
def lrHo (z : List Bool) : Nat -> Nat -> Nat -> Nat -> Nat × Nat
 | 0, _, b, m => (b, m)
 | f + 1, i, b, m => if i < 8 then (if m < runE z i - i then lrHo z f (i + 1) i (runE z i - i) else lrHo z f (i + 1) b m) else (b, m)
def lrR (z : List Bool) : Nat × Nat := lrHo z 9 0 8 1
def tokP (b e : Nat) : Nat -> Nat -> List Nat
 | 0, _ => []
 | f + 1, i => if i < 8 then (if i = b ∧ b < e then 101 :: tokP b e f e else (if 0 < i ∧ (i ≠ e ∨ e = b) then [100] else []) ++ i :: tokP b e f (i + 1)) else []
def tokR (b m : Nat) : Nat -> Nat -> Bool -> List Nat
 | 0, _, _ => []
 | f + 1, i, c => if i < 8 then (if i = b then 101 :: tokR b m f (i + m) false else (if c then [100] else []) ++ i :: tokR b m f (i + 1) true) else []
def rendT (a : List Int) (t : Nat) : Bytes := if t = 100 then [58] else if t = 101 then [58, 58] else hexF (a.getD t 0).toNat
def rendA (a : List Int) (l : List Nat) : Bytes := l.flatMap (rendT a)
def zer (a : List Int) : List Bool := a.map fun n => decide (n = 0)
def sixF (a : List Int) : Bytes := rendA a (tokP (lrP (zer a)).1 (lrP (zer a)).2 9 0)
def all8 : List (List Bool) := (List.range 256).map fun k => (List.range 8).map fun i => decide (k / 2 ^ i % 2 = 1)
theorem mem_all8 (z : List Bool) (h : z.length = 8) : z ∈ all8 := by
 match z, h with
 | [a, b, c, d, e, f, g, i], _ =>
  cases a <;> cases b <;> cases c <;> cases d <;> cases e <;> cases f <;> cases g <;> cases i <;> decide +kernel
theorem toks_all : ∀ z ∈ all8, tokP (lrP z).1 (lrP z).2 9 0 = tokR (lrR z).1 (lrR z).2 9 0 false ∧ (lrP z).1 <= (lrP z).2 ∧ (lrP z).2 <= 8 ∧ 1 <= (lrR z).2 ∧ (lrR z).2 <= 8 ∧ (lrR z).1 <= 8 ∧ ((lrR z).1 < 8 -> (lrR z).1 + (lrR z).2 <= 8) := by decide +kernel
theorem zer_len (a : List Int) : (zer a).length = a.length := by simp [zer]
theorem hexF_len : ∀ (k u : Nat), u < 16 ^ (k + 1) -> (hexF u).length <= k + 1
 | 0, u, h => by rw [hex_small (by simpa using h)]; simp
 | k + 1, u, h => by
  by_cases h16 : u < 16
  ·rw [hex_small h16]; simp
  ·rw [hex_big h16]
   have := hexF_len k (u / 16) (by rw [Nat.pow_succ] at h; omega)
   simp
   exact this
theorem rendT_len (a : List Int) (ha : ∀ n ∈ a, 0 <= n ∧ n < 65536) (t : Nat) : (rendT a t).length <= 4 := by
 unfold rendT
 split
 ·simp
 ·split
  ·simp
  ·apply hexF_len 3
   by_cases ht : t < a.length
   ·have := ha a[t] (List.getElem_mem _)
    simp [List.getD, ht]
    omega
   ·simp [List.getD, List.getElem?_eq_none (Nat.le_of_not_lt ht)]
theorem rendA_len (a : List Int) (ha : ∀ n ∈ a, 0 <= n ∧ n < 65536) : ∀ l : List Nat, (rendA a l).length <= 4 * l.length
 | [] => by simp [rendA]
 | t :: l => by
  have h1 := rendT_len a ha t
  have h2 := rendA_len a ha l
  simp only [rendA, List.flatMap_cons, List.length_append, List.length_cons] at h2 ⊢
  omega
theorem tokP_len (b e : Nat) : ∀ f i, (tokP b e f i).length <= 2 * f
 | 0, _ => by simp [tokP]
 | f + 1, i => by
  unfold tokP
  have h1 := tokP_len b e f e
  have h2 := tokP_len b e f (i + 1)
  split
  ·split
   ·simp; omega
   ·split <;> simp <;> omega
  ·simp
theorem sixF_len (a : List Int) (ha : ∀ n ∈ a, 0 <= n ∧ n < 65536) : (sixF a).length <= 72 := by
 have h1 := rendA_len a ha (tokP (lrP (zer a)).1 (lrP (zer a)).2 9 0)
 have h2 := tokP_len (lrP (zer a)).1 (lrP (zer a)).2 9 0
 unfold sixF
 omega

structure Six (cs : Array Value) (a : List Int) : Prop where
 sz : cs.size = 8
 len : a.length = 8
 at_ : ∀ k (h : k < a.length), cs[k]? = some (.int .u16 a[k])
 rng : ∀ n ∈ a, 0 <= n ∧ n < 65536
theorem six_load {w : World} {b : Nat} {cs : Array Value} (o : Nat) (h : ∀ i, w.cell? ⟨b, o + i, none⟩ = cs[i]?) : w.rangeAt b o cs.toList := by
 intro j v hj
 rw [h j]
 rw [Array.getElem?_toList] at hj
 exact hj
theorem longest_any (a : List Int) (cs : Array Value) (w : World) (h : Six cs a) :
  Calls Tryz.prog 144 #[.agg cs] w fun e w' => e = .returned (.tuple #[.int .i64 (lrP (zer a)).1, .int .i64 (lrP (zer a)).2]) ∧ Below w.heap.size w w' := by
 have hlen := h.len
 have hat := h.at_
 obtain ⟨z, hz⟩ := ex_ (zer a)
 have hzl : z.length = 8 := by rw [hz, zer_len]; exact hlen
 have hza : ∀ k (hk : k < a.length) (hk2 : k < z.length), z[k] = decide (a[k] = 0) := by intro k hk hk2; subst hz; simp [zer]
 rw [<- hz]
 clear h hz
 have HAT := h_ hat; clear hat
 have HZL := h_ hzl; clear hzl
 have HZA := h_ hza; clear hza
 have HLEN := h_ hlen; clear hlen
 obtain ⟨R, hR⟩ := ex_ (lrP z)
 rw [<- hR]
 have HR := h_ hR; clear hR
 go_enter Tryz.func144, Tryz.ntmps144
 go_wp2_with (first | (refine boxed rfl _ _ rfl cs rfl ?_; intro bx w1 hb1 hb2 hb3 hb4 hb5; have HC := h_ hb4; have HB := h_ hb5; clear hb1 hb2 hb3 hb4 hb5) | fail)
 go_loopw [4, 5, 6] (fun bv ev iv wr => ∃ b e i f : Nat, bv = .int .i64 b ∧ ev = .int .i64 e ∧ iv = .int .i64 i ∧ Hid (lrGo z f i b e = R) ∧ 8 <= i + f ∧ b <= e ∧ e <= 8 ∧ i <= 9 ∧ w1 = wr) (fun _ _ i _ => 9 - (intOf i).toNat)
 case atStart => exact ⟨0, 0, 0, 9, rfl, rfl, rfl, HR.out.symm, by omega, by omega, by omega, by omega, by trivial⟩
 case round =>
  obtain ⟨b, e, i, f, rfl, rfl, rfl, hg, hif, hbe, he8, hi9, rfl⟩ := hrel
  by_cases hlt : i < 8
  ·obtain ⟨f', rfl⟩ : ∃ f', f = f' + 1 := ⟨f - 1, by omega⟩
   go_wp2_with fail
   go_loopw [7] (fun jv wr => ∃ j : Nat, jv = .int .i64 j ∧ i <= j ∧ j <= 8 ∧ Hid (runE z j = runE z i) ∧ w1 = wr) (fun j _ => 8 - (intOf j).toNat)
   case atStart => exact ⟨i, rfl, by omega, by omega, rfl, rfl⟩
   case round =>
    obtain ⟨j, rfl, hij, hj8, hrun, rfl⟩ := hrel
    by_cases hj : j < 8
    ·have hja : j < a.length := by have := HLEN.out; omega
     have hjz : j < z.length := by have := HZL.out; omega
     have cj := (HC.out j).trans (HAT.out j hja)
     have hzj := HZA.out j hja hjz
     by_cases hx : a[j] = 0
     ·rw [hx] at cj
      have hs := runE_step hjz (by rw [hzj]; simpa using hx)
      have HS := h_ (hs.symm.trans hrun.out); clear hs hzj hx
      go_wp2_with fail
      go_roundw
      case rel =>
       rw [decide_eq_true (show (i : Int) < 8 by omega)]
       (repeat apply Exists.intro)
       exact ⟨⟨j + 1, by simp, by omega, by omega, HS.out, by trivial⟩, rfl⟩
      case measure => simp [intOf]; omega
     ·have hs := runE_stop hjz (by rw [hzj]; simpa using hx)
      have HS := h_ (hs.symm.trans hrun.out); clear hs hzj hrun
      generalize a[j] = x at cj hx
      by_cases hc : 2 <= j - i ∧ e - b < j - i
      ·have HG := h_ ((show lrGo z f' (j + 1) i j = lrGo z (f' + 1) i b e by rw [lrGo, if_pos hlt, <- HS.out, if_pos hc]).trans hg.out)
       have hc1 : (2 : Int) <= (j : Int) - i := by omega
       have hc2 : (e : Int) - b < (j : Int) - i := by omega
       clear hc
       go_wp2_with fail
       go_roundw
       case rel => exact ⟨i, j, j + 1, f', rfl, rfl, by simp, HG.out, by omega, by omega, by omega, by omega, by trivial⟩
       case measure => simp [intOf]; omega
      ·have HG := h_ ((show lrGo z f' (j + 1) b e = lrGo z (f' + 1) i b e by rw [lrGo, if_pos hlt, <- HS.out, if_neg hc]).trans hg.out)
       have hcc : ¬ (2 : Int) <= (j : Int) - i ∨ ((2 : Int) <= (j : Int) - i ∧ ¬ (e : Int) - b < (j : Int) - i) := by omega
       clear hc
       rcases hcc with hc1 | ⟨hc1, hc2⟩
       all_goals
        go_wp2_with fail
        go_roundw
        case rel => exact ⟨b, e, j + 1, f', rfl, rfl, by simp, HG.out, by omega, by omega, by omega, by omega, by trivial⟩
        case measure => simp [intOf]; omega
    ·have hj8' : j = 8 := by omega
     have hs := runE_end (z := z) (j := j) (by have := HZL.out; omega)
     have HS := h_ (hs.symm.trans hrun.out); clear hs hrun
     have hj8i : ¬ (j : Int) < 8 := by omega
     clear hj8'
     by_cases hc : 2 <= j - i ∧ e - b < j - i
     ·have HG := h_ ((show lrGo z f' (j + 1) i j = lrGo z (f' + 1) i b e by rw [lrGo, if_pos hlt, <- HS.out, if_pos hc]).trans hg.out)
      have hc1 : (2 : Int) <= (j : Int) - i := by omega
      have hc2 : (e : Int) - b < (j : Int) - i := by omega
      clear hc
      go_wp2_with fail
      go_roundw
      case rel => exact ⟨i, j, j + 1, f', rfl, rfl, by simp, HG.out, by omega, by omega, by omega, by omega, by trivial⟩
      case measure => simp [intOf]; omega
     ·have HG := h_ ((show lrGo z f' (j + 1) b e = lrGo z (f' + 1) i b e by rw [lrGo, if_pos hlt, <- HS.out, if_neg hc]).trans hg.out)
      have hcc : ¬ (2 : Int) <= (j : Int) - i ∨ ((2 : Int) <= (j : Int) - i ∧ ¬ (e : Int) - b < (j : Int) - i) := by omega
      clear hc
      rcases hcc with hc1 | ⟨hc1, hc2⟩
      all_goals
       go_wp2_with fail
       go_roundw
       case rel => exact ⟨b, e, j + 1, f', rfl, rfl, by simp, HG.out, by omega, by omega, by omega, by omega, by trivial⟩
       case measure => simp [intOf]; omega
  ·have hlti : ¬ (i : Int) < 8 := by omega
   have HG := h_ ((show lrGo z f i b e = (b, e) by cases f with | zero => rfl | succ f => rw [lrGo, if_neg hlt]).symm.trans hg.out)
   go_wp2_with fail
   go_ret2
   refine ⟨?_, HB.out⟩
   rw [<- HG.out]
   rfl
theorem rendA_cons (a : List Int) (t : Nat) (l : List Nat) : rendA a (t :: l) = rendT a t ++ rendA a l := by simp [rendA]
theorem tokP_run {b e f i : Nat} (hi : i < 8) (h : i = b ∧ b < e) : tokP b e (f + 1) i = 101 :: tokP b e f e := by rw [tokP, if_pos hi, if_pos h]
theorem tokP_colon {b e f i : Nat} (hi : i < 8) (h : ¬ (i = b ∧ b < e)) (hc : 0 < i ∧ (i ≠ e ∨ e = b)) : tokP b e (f + 1) i = 100 :: i :: tokP b e f (i + 1) := by rw [tokP, if_pos hi, if_neg h, if_pos hc]; rfl
theorem tokP_plain {b e f i : Nat} (hi : i < 8) (h : ¬ (i = b ∧ b < e)) (hc : ¬ (0 < i ∧ (i ≠ e ∨ e = b))) : tokP b e (f + 1) i = i :: tokP b e f (i + 1) := by rw [tokP, if_pos hi, if_neg h, if_neg hc]; rfl
theorem tokP_end {b e f i : Nat} (hi : ¬ i < 8) : tokP b e f i = [] := by cases f with | zero => rfl | succ f => rw [tokP, if_neg hi]
theorem rendT_piece (a : List Int) (ha : a.length = 8) (i : Nat) (hi : i < a.length) : rendT a i = hexF (a[i]).toNat := by
 unfold rendT
 rw [if_neg (by omega), if_neg (by omega)]
 simp [List.getD, hi]
theorem swrite_eq (a : List Int) (cs : Array Value) (w : World) (h : Six cs a) (hE : NE w) (hbe : (lrP (zer a)).2 = (lrP (zer a)).1) :
  Calls Tryz.prog 116 #[.agg cs] w fun e w' => e = .returned (S (sixF a)) ∧ Below w.heap.size w w' := by
 obtain ⟨i0, hi0, hz0, hz1, hz2⟩ := info_parts u8_info
 have hlg := fun W => longest_any a cs W h
 have hlen := h.len
 have hat := h.at_
 have hrng := h.rng
 have hsz := h.sz
 have hall := toks_all (zer a) (mem_all8 _ (by rw [zer_len]; exact hlen))
 have hsx : sixF a = rendA a (tokP (lrP (zer a)).1 (lrP (zer a)).2 9 0) := rfl
 have hsl := sixF_len a hrng
 rw [hbe] at hlg hall hsx
 clear hbe
 obtain ⟨b, hb⟩ := ex_ ((lrP (zer a)).1)
 rw [<- hb] at hlg hall hsx
 obtain ⟨_, hbe, he8, _⟩ := hall
 obtain ⟨R, hR⟩ := ex_ (sixF a)
 rw [<- hR] at hsx hsl ⊢
 have hau := fun (u : Nat) (hu : u < 65536) (sv : Value) (n : Nat) (l : Bytes) (B : Nat) (W : World) (hb : Below w.heap.size w W) (hB : B <= W.heap.size) (ho : W.ownsRow B 5 1 sv n (Lib.byteCells l)) (hl : n <= 100) =>
  au16_any u hu sv n l B W (hE.below hb) hB ho (by omega)
 have HAU := h_ hau
 have HAT := h_ hat
 have HLEN := h_ hlen
 have HRNG := h_ hrng
 have HSZ := h_ hsz
 have HLG := h_ hlg
 have HSX := h_ hsx
 have HSL := h_ hsl
 have HBE := h_ hbe
 have HE8 := h_ he8
 clear hau hat hlen hrng hsz hlg hsx hsl hbe he8 hE h hR hb
 go_enter Tryz.func116, Tryz.ntmps116
 go_wp2_with (first
  | (refine boxed rfl _ _ rfl cs rfl ?_; intro bx w1 hb1 hb2 hb3 hb4 hb5; have HC := h_ hb4; have HB := h_ hb5; have HBX := h_ hb2; clear hb1 hb2 hb3 hb4 hb5)
  | (refine wpList_load_mid rfl 25 _ rfl bx 0 rfl cs.toList _ (six_load 0 (by simpa using HC.out)) Tryz.underlying25 rfl (by rw [Array.length_toList, HSZ.out]; kernel_rfl) ?_)
  | (go_at_call 144; rw [Array.toArray_toList]; refine (HLG.out _).mono ?_; rintro e1 w2 ⟨rfl, hb2⟩; have HB2 := h_ hb2; clear hb2)
  | fail)
 go_loopw [5, 6] (fun ov iv wr => ∃ (i f : Nat) (l : Bytes), iv = .int .i64 i ∧ Hid (l ++ rendA a (tokP b b f i) = R) ∧ 8 <= i + f ∧ i <= 8 ∧ Hid (wr.ownsRow w2.heap.size 5 1 ov l.length (Lib.byteCells l)) ∧ Hid (Below w2.heap.size w2 wr)) (fun _ i _ => 9 - (intOf i).toNat)
 case atStart => exact ⟨0, 9, [], rfl, HSX.out.symm, by omega, by omega, ⟨by simp [Lib.byteCells], .inl ⟨rfl, rfl⟩⟩, Below.refl _ _⟩
 case round =>
  obtain ⟨i, f, l, rfl, hx, hif, hi8, ho, hb⟩ := hrel
  have hBB : Below w.heap.size w _ := HB.out.trans ((HB2.out.mono HB.out.size).trans (hb.out.mono (Nat.le_trans HB.out.size HB2.out.size)))
  have HBB := h_ hBB; clear hBB
  have hll : l.length <= 72 := by
   have h1 := congrArg List.length hx.out
   rw [List.length_append] at h1
   have := HSL.out
   omega
  have HLL := h_ hll; clear hll
  by_cases hlt : i < 8
  ·obtain ⟨f', rfl⟩ : ∃ f', f = f' + 1 := ⟨f - 1, by omega⟩
   have hlti : (i : Int) < 8 := by omega
   have hx2 := hx.out
   have hA : ¬ (i = b ∧ b < b) := by omega
   have hia : i < a.length := by have := HLEN.out; omega
   have ci := ((HB2.out.trans (hb.out.mono HB2.out.size)).cell (p := ⟨bx, i, none⟩) HBX.out).trans ((HC.out i).trans (HAT.out i hia))
   have hri := HRNG.out _ (List.getElem_mem hia)
   have hpc := rendT_piece a HLEN.out i hia
   obtain ⟨x, hx0⟩ := ex_ (a[i])
   rw [<- hx0] at ci hri hpc
   obtain ⟨n, rfl⟩ : ∃ n : Nat, x = n := ⟨x.toNat, by omega⟩
   simp only [Int.toNat_natCast] at hpc
   have hn : n < 65536 := by omega
   have hxl := hexF_len 3 n (by omega)
   clear hx0 hri
   by_cases hcol : 0 < i ∧ (i ≠ b ∨ b = b)
   ·rw [tokP_colon hlt hA hcol, rendA_cons, rendA_cons, hpc] at hx2
    have hx3 : (l ++ [58] ++ hexF n) ++ rendA a (tokP b b f' (i + 1)) = R := by rw [<- hx2]; simp [rendT]
    have HX := h_ hx3; clear hx3 hx2 hx hpc
    have HXL := h_ hxl; clear hxl
    have h0 : (0 : Int) < i := by omega
    clear hcol hA
    by_cases hib : i = b
    ·subst hib
     have hwz := hb.out.size
     go_wp2_with (first
      | (at_builtin; (refine push1 rfl (.tmp 40) (.tmp 41) _ rfl w2.heap.size 5 i0 (.int .u8 0) 1 Tryz.underlying38 hi0 hz0 hz1 hz2 (by decide) _ _ _ _ rfl ho.out (.int .u8 58) rfl rfl (by have := HLL.out; omega) (by decide) hwz ?_); intro v3 w3 hown3 hw3 hb3; have HO3 := h_ hown3; clear hown3; have HB3 := h_ (hb.out.trans hb3); have HZ3 := h_ (HBB.out.trans (hb3.mono (Nat.le_trans HB.out.size HB2.out.size))); have ci3 := (hb3.cell (p := ⟨bx, i, none⟩) (Nat.lt_of_lt_of_le HBX.out HB2.out.size)).trans ci; clear hb3)
      | (go_at_call 143; refine (HAU.out n hn _ _ (l ++ [58]) w2.heap.size _ HZ3.out HB3.out.size (by rw [bytes_snoc]; exact HO3.out) (by have := HLL.out; simp; omega)).mono ?_; rintro e4 w4 ⟨v4, rfl, ho4, hb4⟩; have HO4 := h_ ho4; clear ho4; have HB4 := h_ (HB3.out.trans hb4); clear hb4)
      | fail)
     go_roundw
     case rel =>
      refine ⟨i + 1, f', l ++ [58] ++ hexF n, by simp_all, HX.out, by omega, by omega, ?_, HB4.out⟩
      have := HO4.out
      rw [List.length_append, List.length_append]
      exact this
     case measure => simp_all [intOf] <;> omega
    ·have hibi : ¬ (i : Int) = b := by omega
     clear hib
     have hwz := hb.out.size
     go_wp2_with (first
      | (at_builtin; (refine push1 rfl (.tmp 40) (.tmp 41) _ rfl w2.heap.size 5 i0 (.int .u8 0) 1 Tryz.underlying38 hi0 hz0 hz1 hz2 (by decide) _ _ _ _ rfl ho.out (.int .u8 58) rfl rfl (by have := HLL.out; omega) (by decide) hwz ?_); intro v3 w3 hown3 hw3 hb3; have HO3 := h_ hown3; clear hown3; have HB3 := h_ (hb.out.trans hb3); have HZ3 := h_ (HBB.out.trans (hb3.mono (Nat.le_trans HB.out.size HB2.out.size))); have ci3 := (hb3.cell (p := ⟨bx, i, none⟩) (Nat.lt_of_lt_of_le HBX.out HB2.out.size)).trans ci; clear hb3)
      | (go_at_call 143; refine (HAU.out n hn _ _ (l ++ [58]) w2.heap.size _ HZ3.out HB3.out.size (by rw [bytes_snoc]; exact HO3.out) (by have := HLL.out; simp; omega)).mono ?_; rintro e4 w4 ⟨v4, rfl, ho4, hb4⟩; have HO4 := h_ ho4; clear ho4; have HB4 := h_ (HB3.out.trans hb4); clear hb4)
      | fail)
     go_roundw
     case rel =>
      refine ⟨i + 1, f', l ++ [58] ++ hexF n, by simp_all, HX.out, by omega, by omega, ?_, HB4.out⟩
      have := HO4.out
      rw [List.length_append, List.length_append]
      exact this
     case measure => simp_all [intOf] <;> omega
   ·rw [tokP_plain hlt hA hcol, rendA_cons, hpc] at hx2
    have hx3 : (l ++ hexF n) ++ rendA a (tokP b b f' (i + 1)) = R := by rw [<- hx2]; simp
    have HX := h_ hx3; clear hx3 hx2 hx hpc
    have HXL := h_ hxl; clear hxl
    have h0 : ¬ (0 : Int) < i := by omega
    clear hcol hA
    by_cases hib : i = b
    ·subst hib
     go_wp2_with (first
      | (go_at_call 143; refine (HAU.out n hn _ _ l w2.heap.size _ HBB.out hb.out.size ho.out (by have := HLL.out; simp; omega)).mono ?_; rintro e4 w4 ⟨v4, rfl, ho4, hb4⟩; have HO4 := h_ ho4; clear ho4; have HB4 := h_ (hb.out.trans hb4); clear hb4)
      | fail)
     go_roundw
     case rel =>
      refine ⟨i + 1, f', l ++ hexF n, by simp_all, HX.out, by omega, by omega, ?_, HB4.out⟩
      have := HO4.out
      rw [List.length_append]
      exact this
     case measure => simp_all [intOf] <;> omega
    ·have hibi : ¬ (i : Int) = b := by omega
     clear hib
     go_wp2_with (first
      | (go_at_call 143; refine (HAU.out n hn _ _ l w2.heap.size _ HBB.out hb.out.size ho.out (by have := HLL.out; simp; omega)).mono ?_; rintro e4 w4 ⟨v4, rfl, ho4, hb4⟩; have HO4 := h_ ho4; clear ho4; have HB4 := h_ (hb.out.trans hb4); clear hb4)
      | fail)
     go_roundw
     case rel =>
      refine ⟨i + 1, f', l ++ hexF n, by simp_all, HX.out, by omega, by omega, ?_, HB4.out⟩
      have := HO4.out
      rw [List.length_append]
      exact this
     case measure => simp_all [intOf] <;> omega
  ·have hlti : ¬ (i : Int) < 8 := by omega
   have hx2 := hx.out
   rw [tokP_end hlt] at hx2
   have hx3 : l = R := by rw [<- hx2]; simp [rendA]
   have hcv := conv_own (P := Tryz.prog) (src := 38) (dst := 9) Tryz.underlying38 Tryz.underlying5 Tryz.underlying9 ho.out
   rw [hx3] at hcv
   clear hx3 hx2
   go_wp2_with fail
   go_ret
   exact ⟨rfl, HBB.out⟩
theorem swrite_lt (a : List Int) (cs : Array Value) (w : World) (h : Six cs a) (hE : NE w) (hbe : (lrP (zer a)).1 < (lrP (zer a)).2) :
  Calls Tryz.prog 116 #[.agg cs] w fun e w' => e = .returned (S (sixF a)) ∧ Below w.heap.size w w' := by
 obtain ⟨i0, hi0, hz0, hz1, hz2⟩ := info_parts u8_info
 have hlg := fun W => longest_any a cs W h
 have hlen := h.len
 have hat := h.at_
 have hrng := h.rng
 have hsz := h.sz
 have hall := toks_all (zer a) (mem_all8 _ (by rw [zer_len]; exact hlen))
 have hsx : sixF a = rendA a (tokP (lrP (zer a)).1 (lrP (zer a)).2 9 0) := rfl
 have hsl := sixF_len a hrng
 obtain ⟨b, hb⟩ := ex_ ((lrP (zer a)).1)
 obtain ⟨e, he⟩ := ex_ ((lrP (zer a)).2)
 rw [<- hb, <- he] at hlg hall hsx hbe
 clear he
 have hbei : (b : Int) < e := by omega
 obtain ⟨_, _, he8, _⟩ := hall
 obtain ⟨R, hR⟩ := ex_ (sixF a)
 rw [<- hR] at hsx hsl ⊢
 have hau := fun (u : Nat) (hu : u < 65536) (sv : Value) (n : Nat) (l : Bytes) (B : Nat) (W : World) (hb : Below w.heap.size w W) (hB : B <= W.heap.size) (ho : W.ownsRow B 5 1 sv n (Lib.byteCells l)) (hl : n <= 100) =>
  au16_any u hu sv n l B W (hE.below hb) hB ho (by omega)
 have HAU := h_ hau
 have HAT := h_ hat
 have HLEN := h_ hlen
 have HRNG := h_ hrng
 have HSZ := h_ hsz
 have HLG := h_ hlg
 have HSX := h_ hsx
 have HSL := h_ hsl
 have HBE := h_ hbe
 have HE8 := h_ he8
 clear hau hat hlen hrng hsz hlg hsx hsl hbe he8 hE h hR hb
 go_enter Tryz.func116, Tryz.ntmps116
 go_wp2_with (first
  | (refine boxed rfl _ _ rfl cs rfl ?_; intro bx w1 hb1 hb2 hb3 hb4 hb5; have HC := h_ hb4; have HB := h_ hb5; have HBX := h_ hb2; clear hb1 hb2 hb3 hb4 hb5)
  | (refine wpList_load_mid rfl 25 _ rfl bx 0 rfl cs.toList _ (six_load 0 (by simpa using HC.out)) Tryz.underlying25 rfl (by rw [Array.length_toList, HSZ.out]; kernel_rfl) ?_)
  | (go_at_call 144; rw [Array.toArray_toList]; refine (HLG.out _).mono ?_; rintro e1 w2 ⟨rfl, hb2⟩; have HB2 := h_ hb2; clear hb2)
  | fail)
 go_loopw [5, 6] (fun ov iv wr => ∃ (i f : Nat) (l : Bytes), iv = .int .i64 i ∧ Hid (l ++ rendA a (tokP b e f i) = R) ∧ 8 <= i + f ∧ i <= 8 ∧ Hid (wr.ownsRow w2.heap.size 5 1 ov l.length (Lib.byteCells l)) ∧ Hid (Below w2.heap.size w2 wr)) (fun _ i _ => 9 - (intOf i).toNat)
 case atStart => exact ⟨0, 9, [], rfl, HSX.out.symm, by omega, by omega, ⟨by simp [Lib.byteCells], .inl ⟨rfl, rfl⟩⟩, Below.refl _ _⟩
 case round =>
  obtain ⟨i, f, l, rfl, hx, hif, hi8, ho, hb⟩ := hrel
  have hBB : Below w.heap.size w _ := HB.out.trans ((HB2.out.mono HB.out.size).trans (hb.out.mono (Nat.le_trans HB.out.size HB2.out.size)))
  have HBB := h_ hBB; clear hBB
  have hll : l.length <= 72 := by
   have h1 := congrArg List.length hx.out
   rw [List.length_append] at h1
   have := HSL.out
   omega
  have HLL := h_ hll; clear hll
  by_cases hlt : i < 8
  ·obtain ⟨f', rfl⟩ : ∃ f', f = f' + 1 := ⟨f - 1, by omega⟩
   have hlti : (i : Int) < 8 := by omega
   have hx2 := hx.out
   by_cases hA : i = b ∧ b < e
   ·rw [tokP_run hlt hA, rendA_cons] at hx2
    have hx3 : (l ++ [58, 58]) ++ rendA a (tokP b e f' e) = R := by rw [<- hx2]; simp [rendT]
    have HX := h_ hx3; clear hx3 hx2 hx
    obtain ⟨hA1, _⟩ := hA
    have hA3 : (i : Int) = b := by omega
    have he8i : (e : Int) <= 8 := by have := HE8.out; omega
    have hei : (1 : Int) <= e := by omega
    clear hA1
    have hwz := hb.out.size
    go_wp2_with (first
     | (at_builtin; (refine pushS rfl (.tmp 24) (.const (.string ⟨#[58, 58]⟩)) _ _ rfl w2.heap.size 5 i0 Tryz.underlying38 Tryz.underlying9 hi0 hz0 hz1 hz2 _ _ _ l rfl ho.out [58, 58] rfl (by have := HLL.out; simp; omega) hwz ?_); intro v3 w3 hown3 hw3 hb3; have HO3 := h_ hown3; clear hown3; have HB3 := h_ hb3; clear hb3)
     | fail)
    go_roundw
    case rel =>
     refine ⟨e, f', l ++ [58, 58], by simp, HX.out, by have := HBE.out; omega, HE8.out, ?_, hb.out.trans HB3.out⟩
     rw [List.length_append]
     exact HO3.out
    case measure => simp_all [intOf]; have := HE8.out; omega
   ·have hia : i < a.length := by have := HLEN.out; omega
    have ci := ((HB2.out.trans (hb.out.mono HB2.out.size)).cell (p := ⟨bx, i, none⟩) HBX.out).trans ((HC.out i).trans (HAT.out i hia))
    have hri := HRNG.out _ (List.getElem_mem hia)
    have hpc := rendT_piece a HLEN.out i hia
    obtain ⟨x, hx0⟩ := ex_ (a[i])
    rw [<- hx0] at ci hri hpc
    obtain ⟨n, rfl⟩ : ∃ n : Nat, x = n := ⟨x.toNat, by omega⟩
    simp only [Int.toNat_natCast] at hpc
    have hn : n < 65536 := by omega
    have hxl := hexF_len 3 n (by omega)
    clear hx0 hri
    by_cases hcol : 0 < i ∧ (i ≠ e ∨ e = b)
    ·rw [tokP_colon hlt hA hcol, rendA_cons, rendA_cons, hpc] at hx2
     have hx3 : (l ++ [58] ++ hexF n) ++ rendA a (tokP b e f' (i + 1)) = R := by rw [<- hx2]; simp [rendT]
     have HX := h_ hx3; clear hx3 hx2 hx hpc
     have HXL := h_ hxl; clear hxl
     have h0 : (0 : Int) < i := by omega
     have h1 : ¬ (i : Int) = b := by have := HBE.out; omega
     have h2 : ¬ (i : Int) = e := by have := HBE.out; omega
     clear hcol hA
     have hwz := hb.out.size
     go_wp2_with (first
      | (at_builtin; (refine push1 rfl (.tmp 40) (.tmp 41) _ rfl w2.heap.size 5 i0 (.int .u8 0) 1 Tryz.underlying38 hi0 hz0 hz1 hz2 (by decide) _ _ _ _ rfl ho.out (.int .u8 58) rfl rfl (by have := HLL.out; omega) (by decide) hwz ?_); intro v3 w3 hown3 hw3 hb3; have HO3 := h_ hown3; clear hown3; have HB3 := h_ (hb.out.trans hb3); have HZ3 := h_ (HBB.out.trans (hb3.mono (Nat.le_trans HB.out.size HB2.out.size))); have ci3 := (hb3.cell (p := ⟨bx, i, none⟩) (Nat.lt_of_lt_of_le HBX.out HB2.out.size)).trans ci; clear hb3)
      | (go_at_call 143; refine (HAU.out n hn _ _ (l ++ [58]) w2.heap.size _ HZ3.out HB3.out.size (by rw [bytes_snoc]; exact HO3.out) (by have := HLL.out; simp; omega)).mono ?_; rintro e4 w4 ⟨v4, rfl, ho4, hb4⟩; have HO4 := h_ ho4; clear ho4; have HB4 := h_ (HB3.out.trans hb4); clear hb4)
      | fail)
     all_goals
      go_roundw
      case rel =>
       refine ⟨i + 1, f', l ++ [58] ++ hexF n, by simp_all, HX.out, by omega, by omega, ?_, HB4.out⟩
       have := HO4.out
       rw [List.length_append, List.length_append]
       exact this
      case measure => simp_all [intOf] <;> omega
    ·rw [tokP_plain hlt hA hcol, rendA_cons, hpc] at hx2
     have hx3 : (l ++ hexF n) ++ rendA a (tokP b e f' (i + 1)) = R := by rw [<- hx2]; simp
     have HX := h_ hx3; clear hx3 hx2 hx hpc
     have HXL := h_ hxl; clear hxl
     have h1 : ¬ (i : Int) = b := by have := HBE.out; omega
     have h3 : ¬ (e : Int) = b := by have := HBE.out; omega
     have h2 : (¬ (0 : Int) < i) ∨ ((0 : Int) < i ∧ (i : Int) = e) := by have := HBE.out; omega
     clear hcol hA
     rcases h2 with h2 | ⟨h2, h4⟩
     ·go_wp2_with (first
       | (go_at_call 143; refine (HAU.out n hn _ _ l w2.heap.size _ HBB.out hb.out.size ho.out (by have := HLL.out; simp; omega)).mono ?_; rintro e4 w4 ⟨v4, rfl, ho4, hb4⟩; have HO4 := h_ ho4; clear ho4; have HB4 := h_ (hb.out.trans hb4); clear hb4)
       | fail)
      go_roundw
      case rel =>
       refine ⟨i + 1, f', l ++ hexF n, by simp_all, HX.out, by omega, by omega, ?_, HB4.out⟩
       have := HO4.out
       rw [List.length_append]
       exact this
      case measure => simp_all [intOf] <;> omega
     ·obtain rfl : i = e := by omega
      clear h4
      go_wp2_with (first
       | (go_at_call 143; refine (HAU.out n hn _ _ l w2.heap.size _ HBB.out hb.out.size ho.out (by have := HLL.out; simp; omega)).mono ?_; rintro e4 w4 ⟨v4, rfl, ho4, hb4⟩; have HO4 := h_ ho4; clear ho4; have HB4 := h_ (hb.out.trans hb4); clear hb4)
       | fail)
      go_roundw
      case rel =>
       refine ⟨i + 1, f', l ++ hexF n, by simp_all, HX.out, by omega, by omega, ?_, HB4.out⟩
       have := HO4.out
       rw [List.length_append]
       exact this
      case measure => simp_all [intOf] <;> omega
  ·have hlti : ¬ (i : Int) < 8 := by omega
   have hx2 := hx.out
   rw [tokP_end hlt] at hx2
   have hx3 : l = R := by rw [<- hx2]; simp [rendA]
   have hcv := conv_own (P := Tryz.prog) (src := 38) (dst := 9) Tryz.underlying38 Tryz.underlying5 Tryz.underlying9 ho.out
   rw [hx3] at hcv
   clear hx3 hx2
   go_wp2_with fail
   go_ret
   exact ⟨rfl, HBB.out⟩
theorem swrite_any (a : List Int) (cs : Array Value) (w : World) (h : Six cs a) (hE : NE w) :
  Calls Tryz.prog 116 #[.agg cs] w fun e w' => e = .returned (S (sixF a)) ∧ Below w.heap.size w w' := by
 have hall := toks_all (zer a) (mem_all8 _ (by rw [zer_len]; exact h.len))
 by_cases hb : (lrP (zer a)).1 < (lrP (zer a)).2
 ·exact swrite_lt a cs w h hE hb
 ·exact swrite_eq a cs w h hE (by omega)

structure LastC (l : Bytes) (c : Bool) : Prop where
 yes : c = true -> ∃ p x, l = p ++ [x] ∧ x ≠ 58
 no : c = false -> l = [] ∨ ∃ p, l = p ++ [58]
theorem hexd_ne (n : Nat) (h : n < 16) : hexd n ≠ 58 := by
 have : ∀ k : Fin 16, hexd k.val ≠ 58 := by decide +kernel
 exact this ⟨n, h⟩
theorem hex_last (u : Nat) : ∃ p x, hexF u = p ++ [x] ∧ x ≠ 58 := by
 by_cases h : u < 16
 ·exact ⟨[], hexd u, by rw [hex_small h]; rfl, hexd_ne u h⟩
 ·exact ⟨hexF (u / 16), hexd (u % 16), hex_big h, hexd_ne _ (by omega)⟩
theorem LastC.hex (l : Bytes) (u : Nat) : LastC (l ++ hexF u) true := by
 obtain ⟨p, x, h1, h2⟩ := hex_last u
 refine ⟨fun _ => ⟨l ++ p, x, by rw [h1, List.append_assoc], h2⟩, fun h => by cases h⟩
theorem LastC.two (l : Bytes) : LastC (l ++ [58, 58]) false := ⟨fun h => (by cases h), fun _ => .inr ⟨l ++ [58], by simp⟩⟩

def hostF (h : Hst) : Bytes := if h.kind = 2 ∨ h.kind = 5 then h.name else if h.kind = 3 then fourF h.four.toNat else if h.kind = 4 then [91] ++ sixF h.six ++ [93] else []
theorem hostF_len (h : Hst) (ok : HstOk h) (n : Nat) (hn : h.name.length <= n) : (hostF h).length <= n + 74 := by
 have h1 := sixF_len h.six ok.s
 have h2 := fourF_len h.four.toNat (by have := ok.f; omega)
 unfold hostF
 split
 ·omega
 ·split
  ·omega
  ·split
   ·simp only [List.length_append, List.length_cons, List.length_nil]; omega
   ·simp
theorem HstAt.six_at {cs : Array Value} {h : Hst} (ha : HstAt cs h) : Six (cs.toList.drop 3).toArray h.six := by
 refine ⟨?_, ha.ok.l, fun k hk => ?_, ha.ok.s⟩
 ·simp [ha.sz]
 ·rw [List.getElem?_toArray, List.getElem?_drop, Array.getElem?_toList]
  exact ha.six k hk
theorem hwrite_any (h : Hst) (cs : Array Value) (w : World) (ha : HstAt cs h) (hnl : h.name.length <= 102400000) (hE : NE w) :
  Calls Tryz.prog 81 #[.agg cs] w fun e w' => e = .returned (S (hostF h)) ∧ Below w.heap.size w w' := by
 have h0 := ha.kind
 have h1 := ha.name
 have h2 := ha.four
 have hf := ha.ok.f
 have hs := ha.six_at
 have hsix := fun W (hW : Below w.heap.size w W) => swrite_any h.six _ W hs (hE.below hW)
 have hfour := fun W (hW : Below w.heap.size w W) => fwrite_any h.four.toNat (by omega) W (hE.below hW)
 have hr : hostF h = if h.kind = 2 ∨ h.kind = 5 then h.name else if h.kind = 3 then fourF h.four.toNat else if h.kind = 4 then [91] ++ sixF h.six ++ [93] else [] := rfl
 have hsl := sixF_len h.six ha.ok.s
 have hc6 : ∀ i, cs[3 + i]? = (cs.toList.drop 3)[i]? := fun i => by rw [List.getElem?_drop, Array.getElem?_toList]
 have h8 : (cs.toList.drop 3).length = 8 := by rw [List.length_drop, Array.length_toList, ha.sz]
 obtain ⟨R, hR⟩ := ex_ (hostF h)
 rw [<- hR] at hr ⊢
 clear ha hR hs
 generalize h.kind = K at h0 hr
 generalize h.name = nm at h1 hr hnl
 obtain ⟨q, hq⟩ : ∃ q : Nat, h.four = q := ⟨h.four.toNat, by omega⟩
 rw [hq] at h2 hf hfour hr
 simp only [Int.toNat_natCast] at hfour hr
 generalize fourF q = F at hfour hr
 generalize sixF h.six = X at hsix hr hsl
 clear hq
 generalize cs.toList.drop 3 = c6 at hc6 h8 hsix
 have HSIX := h_ hsix; clear hsix
 have HFOUR := h_ hfour; clear hfour
 have HC6 := h_ hc6; clear hc6
 have H8 := h_ h8; clear h8
 by_cases k2 : K = 2 ∨ K = 5
 ·rw [if_pos k2] at hr
  subst hr
  rcases k2 with rfl | rfl
  all_goals
   go_enter Tryz.func81, Tryz.ntmps81
   go_wp2_with (first | (refine boxed rfl _ _ rfl cs rfl ?_; intro bx w1 hb1 hb2 hb3 hb4 hb5; have c0 := (hb4 0).trans h0; have c1 := (hb4 1).trans h1; have HB := h_ hb5; clear hb1 hb2 hb3 hb4 hb5) | fail)
   go_ret
   exact ⟨rfl, HB.out⟩
 rw [if_neg k2] at hr
 have n2 : ¬ K = 2 := fun h => k2 (.inl h)
 have n5 : ¬ K = 5 := fun h => k2 (.inr h)
 clear k2
 by_cases k3 : K = 3
 ·rw [if_pos k3] at hr
  subst hr; subst k3
  go_enter Tryz.func81, Tryz.ntmps81
  go_wp2_with (first
   | (refine boxed rfl _ _ rfl cs rfl ?_; intro bx w1 hb1 hb2 hb3 hb4 hb5; have c0 := (hb4 0).trans h0; have c2 := (hb4 2).trans h2; have HB := h_ hb5; clear hb1 hb2 hb3 hb4 hb5)
   | (go_at_call 115; refine (HFOUR.out _ HB.out).mono ?_; rintro e w2 ⟨rfl, hb2⟩; have HB2 := h_ (HB.out.trans (hb2.mono HB.out.size)); clear hb2)
   | fail)
  go_ret
  exact ⟨rfl, HB2.out⟩
 rw [if_neg k3] at hr
 by_cases k4 : K = 4
 ·rw [if_pos k4] at hr
  subst k4
  have HR := h_ hr; clear hr n2 n5 k3
  go_enter Tryz.func81, Tryz.ntmps81
  go_wp2_with (first
   | (refine boxed rfl _ _ rfl cs rfl ?_; intro bx w1 hb1 hb2 hb3 hb4 hb5; have c0 := (hb4 0).trans h0; have HC := h_ hb4; have HB := h_ hb5; clear hb1 hb2 hb3 hb4 hb5)
   | (refine wpList_load_mid rfl 25 _ rfl bx 3 rfl c6 _ (fun j v hv => by rw [HC.out (3 + j), HC6.out j]; exact hv) Tryz.underlying25 rfl (by rw [H8.out]; kernel_rfl) ?_)
   | (go_at_call 116; refine (HSIX.out _ HB.out).mono ?_; rintro e w2 ⟨rfl, hb2⟩; have HB2 := h_ (HB.out.trans (hb2.mono HB.out.size)); clear hb2)
   | fail)
  go_ret
  refine ⟨ret1_S ?_, HB2.out⟩
  rw [HR.out]
  simp [ls_app, ls_mk]
 rw [if_neg k4] at hr
 subst hr
 go_enter Tryz.func81, Tryz.ntmps81
 go_wp2_with (first
  | (refine boxed rfl _ _ rfl cs rfl ?_; intro bx w1 hb1 hb2 hb3 hb4 hb5; have c0 := (hb4 0).trans h0; have HB := h_ hb5; clear hb1 hb2 hb3 hb4 hb5)
  | fail)
 go_ret
 exact ⟨rfl, HB.out⟩
end Go.Proofs.YtpckaimpjccjhaaGreatDoor
