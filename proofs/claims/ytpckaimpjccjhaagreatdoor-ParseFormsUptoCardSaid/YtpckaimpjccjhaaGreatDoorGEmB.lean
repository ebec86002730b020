/- EmB PctD Who EmC: joined. -/
import Derived.Test.YtpckaimpjccjhaaGreatDoorGEmA
import Derived.Test.YtpckaimpjccjhaaGreatDoorGBld
import Derived.Test.YtpckaimpjccjhaaGreatDoorGPctA
set_option maxHeartbeats 40000000
namespace Go.Proofs.YtpckaimpjccjhaaGreatDoor
open Go.RowKit
set_option maxRecDepth 10000
structure Hb (wb : World) (l : Bytes) (w : World) : Prop where
 bld : ∃ g, Bld wb.heap.size g l w ∧ ∀ k, g = some k -> wb.heap.size <= k
 bel : Below wb.heap.size wb w
theorem Hb.fresh (wb : World) : Hb wb [] (wb.alloc (.cells #[.pointer none, .slice none 0 0] 76)) :=
 ⟨⟨none, Bld.fresh wb, fun _ h => by cases h⟩, (Below.refl _ _).alloc (Nat.le_refl _) _⟩
theorem Hb.step {wb w w' : World} {l : Bytes} (h : Hb wb l w) (hb : Below w.heap.size w w') : Hb wb l w' := by
 obtain ⟨g, h1, h2⟩ := h.bld
 exact ⟨⟨g, h1.below hb, h2⟩, h.bel.trans (hb.mono h.bel.size)⟩
theorem Hb.of_ret {wb w w' : World} {l' : Bytes} {g : Option Nat} (hg : ∀ k, g = some k -> wb.heap.size <= k) (hb : Below wb.heap.size wb w) (h : RetB w wb.heap.size g l' w') : Hb wb l' w' := by
 obtain ⟨g', a1, a2, a3⟩ := h
 refine ⟨⟨g', a1, fun k hk => ?_⟩, hb.trans (a3.below hb.size ?_)⟩
 ·rcases a2 with h | ⟨k', h, h'⟩
  ·exact hg k (h ▸ hk)
  ·rw [h] at hk; injection hk with hk; have := hb.size; omega
 ·rintro k (h | h)
  ·omega
  ·exact hg k h
theorem Hb.ws {wb w : World} {l : Bytes} (m : Bytes) (h : Hb wb l w) (hlen : l.length + m.length <= 1099511627776) :
  Calls Tryz.prog 75 #[.pointer (some ⟨wb.heap.size, 0, none⟩), S m] w fun e w' => e = .returned (.tuple #[.int .i64 m.length, .nilIface]) ∧ Hb wb (l ++ m) w' := by
 obtain ⟨g, h1, h2⟩ := h.bld
 refine (writeString_any m h1 hlen).mono ?_
 rintro e w' ⟨rfl, hr⟩
 exact ⟨rfl, Hb.of_ret h2 h.bel hr⟩
theorem Hb.wb1 {wb w : World} {l : Bytes} (m : UInt8) (n : Int) (hn : n = b2 m) (h : Hb wb l w) (hlen : l.length + 1 <= 1099511627776) :
  Calls Tryz.prog 55 #[.pointer (some ⟨wb.heap.size, 0, none⟩), .int .u8 n] w fun e w' => e = .returned .nilIface ∧ Hb wb (l ++ [m]) w' := by
 subst hn
 obtain ⟨g, h1, h2⟩ := h.bld
 refine (writeByte_any m h1 hlen).mono ?_
 rintro e w' ⟨rfl, hr⟩
 exact ⟨rfl, Hb.of_ret h2 h.bel hr⟩
theorem Hb.str {wb w : World} {l : Bytes} (h : Hb wb l w) :
  Calls Tryz.prog 56 #[.pointer (some ⟨wb.heap.size, 0, none⟩)] w fun e w' => e = .returned (S l) ∧ Below wb.heap.size wb w' := by
 obtain ⟨g, h1, h2⟩ := h.bld
 refine (bstring_any wb.heap.size h1 (Nat.le_refl _) h2).mono ?_
 rintro e w' ⟨rfl, hr⟩
 exact ⟨rfl, h.bel.trans hr⟩
theorem boxed {P : Program} {ops : Array Oper} {rest : List Oper} {o : Oper} {a : Act} {w : World} {Q : Exit -> Act -> World -> Prop} (hg : o.guard = none) (t : TypeId) (x : Operand) (ho : o.op = .box t x)
  (cs : Array Value) (hx : a.eval x = .agg cs)
  (h : ∀ bx w', w.heap.size <= bx -> bx < w'.heap.size -> w'.heap[bx]? = some (.cells cs t (0, 0)) -> (∀ i, w'.cell? ⟨bx, i, none⟩ = cs[i]?) -> Below w.heap.size w w' -> wpList P ops Q rest (a.put o.dst (.pointer (some ⟨bx, 0, none⟩))) w') : wpList P ops Q (o :: rest) a w := by
 refine Go.Great.wpList_boxTo hg t x ho _ rfl _ rfl cs (by rw [hx]; rfl) ?_
 refine h w.heap.size _ (Nat.le_refl _) (by simp) (heap_alloc_new w _) (fun i => ?_) ((Below.refl _ _).alloc (Nat.le_refl _) _)
 rw [World.cell?_alloc_mark]
theorem strs_at {B : Nat} {w : World} {av : Option Addr} {n c : Nat} {l : List Bytes} (h : Sl B w (.slice av n c) (l.map S)) (k : Nat) (hk : k < l.length) :
  ∃ b o, av = some ⟨b, o, none⟩ ∧ b < B ∧ w.cell? ⟨b, o + k, none⟩ = some (S l[k]) := by
 obtain ⟨c', _, _, h⟩ := h
 rcases h with ⟨hn, _⟩ | ⟨b, o, hb, hv, ha⟩
 ·have : l = [] := by simpa using hn
  subst this; simp at hk
 ·injection hv with h1 h2 h3
  refine ⟨b, o, h1, hb, ?_⟩
  have := ha k (by simpa using hk)
  simpa using this
def whoF (u : Url) : Bytes := if u.usr = [] ∧ u.pas = [] then [] else if u.pas = [] then u.usr ++ [64] else u.usr ++ [58] ++ u.pas ++ [64]
def joinP : List Bytes -> Bytes
 | [] => []
 | p :: r => [47] ++ p ++ joinP r
theorem joinP_app : ∀ (l m : List Bytes), joinP (l ++ m) = joinP l ++ joinP m
 | [], m => rfl
 | p :: l, m => by simp [joinP, joinP_app l m]
theorem joinP_snoc (l : List Bytes) (p : Bytes) : joinP (l ++ [p]) = joinP l ++ [47] ++ p := by simp [joinP_app, joinP]
def pathF (u : Url) : Bytes := if u.opq then u.flat else joinP u.path
theorem joinP_len : ∀ l : List Bytes, (joinP l).length = l.length + (l.map List.length).sum
 | [] => rfl
 | p :: r => by simp [joinP, joinP_len r]; omega
theorem ls_app (a b : ByteArray) : ls (a ++ b) = ls a ++ ls b := by
 have h := bs_app (ls a) (ls b)
 rw [bs_ls, bs_ls] at h
 rw [h, ls_bs]
theorem ls_mk (a : Array UInt8) : ls ⟨a⟩ = a.toList := rfl

def hexU (n : Nat) : UInt8 := UInt8.ofNat (if n < 10 then 48 + n else 55 + n)
theorem digitU : ∀ k : Fin 16, ((⟨#[48, 49, 50, 51, 52, 53, 54, 55, 56, 57, 65, 66, 67, 68, 69, 70]⟩ : ByteArray)[k.val]'(by have := k.isLt; show k.val < 16; omega)) = hexU k.val := by decide +kernel
def pcF (set : Int) (x : UInt8) : Bytes := if inF set (b2 x) = true then [37, hexU (x.toNat / 16), hexU (x.toNat % 16)] else [x]
def pcB (set : Int) (l : Bytes) : Bytes := l.flatMap (pcF set)
theorem pcF_len (set : Int) (x : UInt8) : (pcF set x).length <= 3 := by unfold pcF; split <;> simp
theorem pcB_take (set : Int) (l : Bytes) (k : Nat) (hk : k < l.length) : pcB set (l.take (k + 1)) = pcB set (l.take k) ++ pcF set l[k] := by
 unfold pcB
 rw [List.take_succ_eq_append_getElem hk, List.flatMap_append, List.flatMap_cons, List.flatMap_nil, List.append_nil]
theorem pcB_len (set : Int) : ∀ l : Bytes, (pcB set l).length <= 3 * l.length
 | [] => by simp [pcB]
 | x :: l => by
  have := pcB_len set l
  have h1 := pcF_len set x
  simp only [pcB, List.flatMap_cons, List.length_append, List.length_cons] at this ⊢
  omega
theorem pencode_any (set : Int) (l : Bytes) (w : World) (hl : l.length <= 1024000000) : Calls Tryz.prog 20 #[.string (bs l), .int .i64 set] w fun e w' => e = .returned (S (pcB set l)) ∧ Below w.heap.size w w' := by
 obtain ⟨s, hs⟩ := ex_ (bs l)
 have hsz : s.size = l.length := by rw [hs, bs_size]
 have hby : ∀ k (hk : k < s.size) (hk2 : k < l.length), ((s[k]'hk).toNat : Int) = b2 l[k] := fun k hk hk2 => str_at hs hk hk2
 rw [<- hs]
 clear hs
 obtain ⟨N, hN⟩ := ex_ (s.size)
 have hsN : s.size = N := hN.symm
 have hNm : N <= 1024000000 := by omega
 have HBY := h_ hby; clear hby
 have HSZ := h_ hsz; clear hsz hl hN
 go_enter Tryz.func20, Tryz.ntmps20
 go_wp2_with fail
 go_loopw [10] (fun iv wr => ∃ k : Nat, k <= N ∧ iv = .int .i64 k ∧ Hid (Hb w (pcB set (l.take k)) wr)) (fun i _ => N - (intOf i).toNat)
 case atStart => exact ⟨0, by omega, by simp, Hb.fresh w⟩
 case round =>
  obtain ⟨k, hk, rfl, hbd⟩ := hrel
  by_cases hlt : k < N
  ·have hku : k < s.size := by omega
   have hkl : k < l.length := by have := HSZ.out; omega
   have hx := HBY.out k hku hkl
   have htk := pcB_take set l k hkl
   have hle := pcB_len set (l.take k)
   rw [List.length_take] at hle
   have hl1 : (pcB set (l.take k)).length <= 3072000000 := by omega
   have hxr := b2_lt l[k]
   generalize l[k] = x at hx htk hxr
   unfold pcF at htk
   have hin := fun W => pin_any set (b2 x) hxr.1 hxr.2 W
   clear hle
   obtain ⟨q, hq⟩ := ex_ (x.toNat / 16)
   obtain ⟨r, hr⟩ := ex_ (x.toNat % 16)
   have hq16 : q < 16 := by have := x.toNat_lt; omega
   have hr16 : r < 16 := by omega
   rw [<- hq, <- hr] at htk
   obtain ⟨F, hF⟩ := ex_ (inF set (b2 x))
   rw [<- hF] at htk hin
   clear hF
   obtain ⟨X, hX⟩ : ∃ X : Int, X = b2 x := ⟨_, rfl⟩
   rw [<- hX] at hx hin hxr
   have hXn : X = (x.toNat : Int) := hX
   have ht : Int.tdiv X 16 = (q : Int) := by rw [hXn, hq]; exact (Int.ofNat_tdiv x.toNat 16).symm
   have hm : Int.tmod X 16 = (r : Int) := by rw [hXn, hr]; exact (Int.ofNat_tmod x.toNat 16).symm
   have HX := h_ hX; clear hX hXn hq hr
   have HIN := h_ hin; clear hin
   have HL1 := h_ hl1; clear hl1
   cases F
   ·rw [if_neg (by simp)] at htk
    have HT := h_ htk; clear htk ht hm
    go_wp2_with (first
     | (go_at_call 54; refine (HIN.out _).mono ?_; rintro e w2 ⟨rfl, hw2⟩; subst w2)
     | (go_at_call 55; refine (Hb.wb1 x _ HX.out hbd.out (by have := HL1.out; omega)).mono ?_; rintro e w2 ⟨rfl, hbd2⟩; have HBD2 := h_ hbd2; clear hbd2)
     | fail)
    go_roundw
    case rel => exact ⟨k + 1, by omega, by simp, by rw [HT.out]; exact HBD2⟩
    case measure => simp [intOf]; omega
   ·rw [if_pos rfl] at htk
    have HT := h_ htk; clear htk
    go_wp2_with (first
     | (go_at_call 54; refine (HIN.out _).mono ?_; rintro e w2 ⟨rfl, hw2⟩; subst w2)
     | fail)
    go_at_call 55
    refine (Hb.wb1 37 37 rfl hbd.out (by have := HL1.out; omega)).mono ?_
    rintro e w2 ⟨rfl, hbd2⟩
    have HBD2 := h_ hbd2; clear hbd2
    go_wp2_with fail
    go_at_call 55
    refine (Hb.wb1 (hexU q) _ (by have e := digitU ⟨q, hq16⟩; simp only at e; rw [e]; rfl) HBD2.out (by have := HL1.out; simp only [List.length_append, List.length_cons, List.length_nil]; omega)).mono ?_
    rintro e w3 ⟨rfl, hbd3⟩
    have HBD3 := h_ hbd3; clear hbd3
    go_wp2_with fail
    go_at_call 55
    refine (Hb.wb1 (hexU r) _ (by have e := digitU ⟨r, hr16⟩; simp only at e; rw [e]; rfl) HBD3.out (by have := HL1.out; simp only [List.length_append, List.length_cons, List.length_nil]; omega)).mono ?_
    rintro e w4 ⟨rfl, hbd4⟩
    have HBD4 := h_ hbd4; clear hbd4
    go_wp2_with fail
    go_roundw
    case rel => exact ⟨k + 1, by omega, by simp, by rw [HT.out]; have h := HBD4.out; simp only [List.append_assoc, List.cons_append, List.nil_append] at h; exact h⟩
    case measure => simp [intOf]; omega
  ·obtain rfl : k = N := by omega
   go_wp2_with (first | (go_at_call 56; refine (Hb.str hbd.out).mono ?_; rintro e w2 ⟨rfl, hb2⟩; have HB2 := h_ hb2; clear hb2) | fail)
   go_ret
   refine ⟨?_, HB2.out⟩
   have hz := HSZ.out
   rw [hsN] at hz
   rw [hz, List.take_length]; rfl

theorem who_any (u : Url) (cs : Array Value) (pv : Value) (w : World) (h : UrlAt cs pv u) (f1 : u.usr.length <= 102400000) (f2 : u.pas.length <= 102400000) :
  Calls Tryz.prog 80 #[.agg cs] w fun e w' => e = .returned (S (whoF u)) ∧ Below w.heap.size w w' := by
 have h1 := h.usr
 have h2 := h.pas
 clear h
 obtain ⟨R, hR⟩ := ex_ (whoF u)
 rw [<- hR]
 unfold whoF at hR
 generalize u.usr = x at h1 f1 hR
 generalize u.pas = y at h2 f2 hR
 have HR := h_ hR; clear hR
 go_enter Tryz.func80, Tryz.ntmps80
 go_wp2_with (first | (refine boxed rfl _ _ rfl cs rfl ?_; intro bx w1 hb1 hb2 hb3 hb4 hb5; have c1 := (hb4 1).trans h1; have c2 := (hb4 2).trans h2; clear hb4 hb3))
 all_goals
  go_ret
  refine ⟨ret1_S ?_, hb5⟩
  rw [HR.out]
  simp_all [toList_bs, ls_app, ls_mk]

theorem joinP_take (l : List Bytes) (k : Nat) (hk : k < l.length) : joinP (l.take (k + 1)) = joinP (l.take k) ++ [47] ++ l[k] := by
 rw [List.take_succ_eq_append_getElem hk, joinP_snoc]
theorem joinP_take_len (l : List Bytes) (k : Nat) : (joinP (l.take k)).length <= (joinP l).length := by
 conv => rhs; rw [<- List.take_append_drop k l]
 rw [joinP_app, List.length_append]
 omega
theorem spath_any (u : Url) (cs : Array Value) (pv : Value) (w : World) (h : UrlAt cs pv u) (hp : Sl w.heap.size w pv (u.path.map S)) (hl : (joinP u.path).length <= 1024000000) :
  Calls Tryz.prog 83 #[.agg cs] w fun e w' => e = .returned (S (pathF u)) ∧ Below w.heap.size w w' := by
 have h1 := h.opq
 have h2 := h.flat
 have h3 := h.path
 clear h
 obtain ⟨R, hR⟩ := ex_ (pathF u)
 rw [<- hR]
 unfold pathF at hR
 generalize u.flat = fl at h2 hR
 generalize u.path = ps at hp hl hR
 cases ho : u.opq
 ·rw [ho] at h1 hR
  obtain ⟨av, c, hpv⟩ := slice_val hp
  rw [List.length_map] at hpv
  subst hpv
  obtain ⟨N, hN⟩ := ex_ (ps.length)
  rw [<- hN] at h3 hp
  have hNl := joinP_len ps
  have hNm : N <= 1024000000 := by omega
  clear hNl
  have HN := h_ hN; clear hN
  have HL := h_ hl; clear hl
  have HP := h_ hp; clear hp
  have hR2 : R = joinP ps := hR
  clear hR
  have HR := h_ hR2; clear hR2
  clear ho h2
  go_enter Tryz.func83, Tryz.ntmps83
  go_wp2_with (first | (refine boxed rfl _ _ rfl cs rfl ?_; intro bx w1 hb1 hb2 hb3 hb4 hb5; have c1 := (hb4 16).trans h1; have c2 := (hb4 18).trans h3; clear hb4 hb3))
  have HB := h_ hb5; clear hb5 hb1 hb2
  go_loopw [13] (fun iv wr => ∃ k : Nat, k <= N ∧ iv = .int .i64 k ∧ Hid (Hb w1 (joinP (ps.take k)) wr)) (fun i _ => N - (intOf i).toNat)
  case atStart => exact ⟨0, by omega, by simp, Hb.fresh w1⟩
  case round =>
   obtain ⟨k, hk, rfl, hbd⟩ := hrel
   by_cases hlt : k < N
   ·have hkl : k < ps.length := by rw [<- HN.out]; exact hlt
    obtain ⟨b, o, rfl, hbb, hcc⟩ := strs_at ((HP.out.below HB.out).below (hbd.out.bel.mono HB.out.size)) k hkl
    have hjt := joinP_take ps k hkl
    have hjl := joinP_take_len ps (k + 1)
    have hL := HL.out
    rw [hjt] at hjl
    simp only [List.length_append, List.length_cons, List.length_nil] at hjl
    generalize ps[k] = piece at hcc hjt hjl
    have hj1 : (joinP (ps.take k)).length + 1 + piece.length <= 1024000000 := by omega
    clear hjl hL
    have HJ := h_ hjt; clear hjt
    have HJ1 := h_ hj1; clear hj1
    go_wp2_with (first
     | (go_at_call 55; refine (Hb.wb1 47 _ rfl hbd.out (by have := HJ1.out; omega)).mono ?_; rintro e w2 ⟨rfl, hbd2⟩; have HBD2 := h_ hbd2; clear hbd2)
     | (go_at_call 75; refine (Hb.ws piece HBD2.out (by have := HJ1.out; simp; omega)).mono ?_; rintro e w3 ⟨rfl, hbd3⟩; have HBD3 := h_ hbd3; clear hbd3)
     | fail)
    go_roundw
    case rel => exact ⟨k + 1, by omega, by simp, by rw [HJ.out]; exact HBD3⟩
    case measure => simp [intOf]; omega
   ·obtain rfl : k = N := by omega
    go_wp2_with (first | (go_at_call 56; refine (Hb.str hbd.out).mono ?_; rintro e w2 ⟨rfl, hb2⟩; have HB2 := h_ hb2; clear hb2) | fail)
    go_ret
    refine ⟨?_, HB.out.trans (HB2.out.mono HB.out.size)⟩
    rw [HR.out, HN.out, List.take_length]; rfl
 ·rw [ho] at h1 hR
  have hR2 : R = fl := hR
  clear hR hp hl
  subst hR2
  go_enter Tryz.func83, Tryz.ntmps83
  go_wp2_with (first | (refine boxed rfl _ _ rfl cs rfl ?_; intro bx w1 hb1 hb2 hb3 hb4 hb5; have c1 := (hb4 16).trans h1; have c2 := (hb4 17).trans h2; clear hb4 hb3))
  go_ret
  exact ⟨rfl, hb5⟩
end Go.Proofs.YtpckaimpjccjhaaGreatDoor
