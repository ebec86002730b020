/- FloB FloC FloD SrcT SrcU SrcV SrcW SrcY: joined. -/
import Derived.Deep.QuietTactic
import Derived.BigQuiet
import Derived.WalkMore
import Derived.Test.YtpckaimpjccjhaaGreatDoorGFloA
import Derived.Test.YtpckaimpjccjhaaGreatDoorGUtfD
import Derived.Test.YtpckaimpjccjhaaGreatDoorGHlwA
import Derived.Test.YtpckaimpjccjhaaGreatDoorGSixA
import Derived.Test.YtpckaimpjccjhaaGreatDoorGWlkA
import Derived.Test.YtpckaimpjccjhaaGreatDoorGWlkH
import Derived.Test.YtpckaimpjccjhaaGreatDoorGWlkX
import Derived.Test.YtpckaimpjccjhaaGreatDoorGAthW
import Derived.Test.YtpckaimpjccjhaaGreatDoorShelf3
set_option maxHeartbeats 40000000
namespace Go.Proofs.YtpckaimpjccjhaaGreatDoor
open Go.RowKit
set_option maxRecDepth 10000
theorem dr_asc {x : UInt8} (r : Bytes) (h : b2 x < 0x80) : dr (x :: r) = (x.toNat, 1) := by
 have hn := next_asc r h
 rcases first_any x r with ⟨h1, h2, h3, h4, h5, _⟩ | ⟨h1, _⟩
 ·rw [hn] at h3
  have hN : nextN (x :: r) = 1 := by unfold nextN; rw [hn]; rfl
  rw [hN] at h2
  have h3' : (dr (x :: r)).1 = x.toNat := by unfold b2 at h3; simp only at h3; omega
  exact Prod.ext h3' h2
 ·rw [hn] at h1; cases h1
theorem dr_hi {x : UInt8} (r : Bytes) (h : 0x80 <= b2 x) : ((dr (x :: r)).1 = 65533 ∨ (128 <= (dr (x :: r)).1 ∧ Utf8.valid ((dr (x :: r)).1 : Int) = true)) ∧ ∀ y ∈ (x :: r).take (dr (x :: r)).2, 0x80 <= b2 y := by
 have ht := next_taken r h
 have hN := nextF_n x r
 rcases first_any x r with ⟨h1, h2, h3, h4, h5, h6⟩ | ⟨h1, h2, h3, h4, h5⟩
 ·rw [h2]
  refine ⟨.inr ⟨?_, by rw [h3]; exact h6⟩, ht⟩
  rcases Nat.lt_or_ge (dr (x :: r)).1 128 with hlt | hge
  ·rw [<- h3, enc_1 (by omega) (by omega)] at h4
   obtain ⟨j, hj⟩ : ∃ j, nextN (x :: r) = j + 1 := ⟨nextN (x :: r) - 1, by omega⟩
   rw [hj, List.take_succ_cons] at h4
   injection h4 with e1 _
   rw [<- e1] at h
   unfold b2 at h
   rw [toNat_ofNat_lt (by omega)] at h
   omega
  ·exact hge
 ·refine ⟨.inl h3, ?_⟩
  rw [h4]
  intro y hy
  obtain rfl : y = x := by simpa using hy
  exact h
def hitE (c : Int) : Int := if c = 101 then 0 else if c = 69 then 1 else -1
theorem hitE_k : ∀ k : Fin 128, Lib.indexByte [101, 69] (((k.val : Nat) : Int).toNat.toUInt8) = hitE (k.val : Int) := by decide +kernel
theorem ir_asc (c : Int) (w : World) (h0 : 0 <= c) (h1 : c < 128) : Calls Tryz.prog 162 #[.string ⟨#[101, 69]⟩, .int .i32 c] w fun e w' => e = .returned (.int .i64 (hitE c)) ∧ Below w.heap.size w w' := by
 have hk := hitE_k ⟨c.toNat, by omega⟩
 have e : ((c.toNat : Nat) : Int) = c := by omega
 simp only [e] at hk
 refine (Any.strings_IndexRune_ascii { Tryz.laysIA with } ⟨#[101, 69]⟩ c w h0 h1).mono ?_
 rintro e w' ⟨rfl, rfl⟩
 exact ⟨by rw [<- hk], Below.refl _ _⟩
theorem eE_at : ∀ k : Fin 2, Utf8.decode ⟨#[101, 69]⟩ k.val = (if k.val = 0 then (101, 1) else (69, 1)) := by decide +kernel
theorem ir_bad (w : World) : Calls Tryz.prog 162 #[.string ⟨#[101, 69]⟩, .int .i32 65533] w fun e w' => e = .returned (.int .i64 (-1)) ∧ Below w.heap.size w w' := by
 go_enter Tryz.func162, Tryz.ntmps162
 go_wp2_with fail
 go_loopw [5, 6] (fun _ _ wr => ∃ p : Nat, p <= 2 ∧ Hid (wr.heap[w.heap.size]? = some (.stringIter ⟨#[101, 69]⟩ p)) ∧ Hid (Below w.heap.size w wr)) (fun _ _ wr => 2 - wr.iterPos w.heap.size)
 case atStart => exact ⟨0, by omega, World.iter_heap _ _ _, (Below.refl _ _).alloc (Nat.le_refl _) _⟩
 case round =>
  obtain ⟨p, hp, HI, HB⟩ := hrel
  by_cases hlt : p < 2
  ·have hnx : ∀ ty, (Instr.next (.pointer (some ⟨w.heap.size, 0, none⟩)) true ty).run Tryz.prog wr = _ := fun ty => Lib.run_next_any_at wr w.heap.size ⟨#[101, 69]⟩ p ty HI.out hlt
   have hd := eE_at ⟨p, hlt⟩
   have hIA := Lib.iterAt_heap wr w.heap.size ⟨#[101, 69]⟩ p (p + 1) HI.out
   have hBA := Lib.below_iterAt (HB.out) (k := w.heap.size) (Nat.le_refl _) ⟨#[101, 69]⟩ (p + 1)
   have hpos : wr.iterPos w.heap.size = p := iterPos_of HI.out
   have hp2 : p = 0 ∨ p = 1 := by omega
   simp only at hd
   have h1 : (Utf8.decode ⟨#[101, 69]⟩ p).2 = 1 := by rw [hd]; split <;> rfl
   have h2 : (Utf8.decode ⟨#[101, 69]⟩ p).1 = 101 ∨ (Utf8.decode ⟨#[101, 69]⟩ p).1 = 69 := by rw [hd]; split <;> simp
   obtain ⟨rn, hrn⟩ := ex_ ((Utf8.decode ⟨#[101, 69]⟩ p).1)
   rw [h1, <- hrn] at hnx
   rw [<- hrn] at h2
   clear hrn hd h1
   obtain ⟨wi, hwi⟩ := ex_ (wr.iterAt w.heap.size ⟨#[101, 69]⟩ (p + 1))
   rw [<- hwi] at hIA hBA hnx
   have HIA := h_ hIA; clear hIA
   have HBA := h_ hBA; clear hBA
   have HPOS := h_ hpos; clear hpos
   clear hwi
   have hne : ((rn : Int) == 65533) = false := by rcases h2 with rfl | rfl <;> rfl
   have hrk : ((rn : Nat) : Int) < 128 := by omega
   go_wp2_with fail
   go_roundw
   case rel => exact ⟨p + 1, by omega, HIA.out, HBA.out⟩
   case measure =>
    have e2 : wi.iterPos w.heap.size = p + 1 := iterPos_of HIA.out
    rw [e2, HPOS.out]
    omega
  ·obtain rfl : p = 2 := by omega
   have hnx : ∀ ty, (Instr.next (.pointer (some ⟨w.heap.size, 0, none⟩)) true ty).run Tryz.prog wr = _ := fun ty => Lib.run_next_end_at wr w.heap.size ⟨#[101, 69]⟩ 2 ty HI.out (by decide)
   go_wp2_with fail
   go_ret
   exact ⟨rfl, HB.out⟩
theorem vr_any (c : Int) (w : World) (_ : 128 <= c) (hv : Utf8.valid c = true) : Calls Tryz.prog 190 #[.int .i32 c] w fun e w' => e = .returned (.bool true) ∧ w' = w := by
 rcases (valid_iff c).mp hv with ⟨h1, h2⟩ | ⟨h1, h2⟩
 ·go_enter Tryz.func190, Tryz.ntmps190
  go_wp2_with fail
  go_ret
  exact ⟨rfl, rfl⟩
 ·have h3 : ¬ c < 55296 := by omega
  have h4 : (57343 : Int) < c := by omega
  go_enter Tryz.func190, Tryz.ntmps190
  go_wp2_with fail
  go_ret
  exact ⟨rfl, rfl⟩
theorem enc_some {c : Int} (h : 128 <= c) (hv : Utf8.valid c = true) : (∃ a b : UInt8, Utf8.encode c = ⟨#[a, b]⟩ ∧ 128 <= a.toNat ∧ 128 <= b.toNat) ∨ 3 <= (Utf8.encode c).size := by
 have hb : bs (enc c) = Utf8.encode c := bs_ls _
 rcases (valid_iff c).mp hv with h1 | h1
 ·by_cases h2 : c < 0x800
  ·left
   rw [enc_2 (by omega) h2] at hb
   exact ⟨_, _, hb.symm, by rw [toNat_ofNat_lt (by omega)]; omega, by rw [toNat_ofNat_lt (by omega)]; omega⟩
  ·right
   rw [<- hb, enc_3 (by omega) (by omega) (by omega), bs_size]; simp
 ·right
  by_cases h2 : c < 0x10000
  ·rw [<- hb, enc_3 (by omega) (by omega) (by omega), bs_size]; simp
  ·rw [<- hb, enc_4 (by omega) (by omega), bs_size]; simp
theorem ir_hi (c : Int) (w : World) (h : 128 <= c) (hne : c ≠ 65533) (hv : Utf8.valid c = true) (hm : c < 2147483648) : Calls Tryz.prog 162 #[.string ⟨#[101, 69]⟩, .int .i32 c] w fun e w' => e = .returned (.int .i64 (-1)) ∧ Below w.heap.size w w' := by
 have hvr := fun W => vr_any c W h hv
 have hib : ∀ (d : Int) W, Calls Tryz.prog 110 #[.string ByteArray.empty, .int .u8 d] W fun e w' => e = .returned (.int .i64 (-1)) ∧ w' = W := fun d W => (Any.strings_IndexByte Tryz.laysIB ByteArray.empty d W)
 have HVR := h_ hvr; clear hvr
 have HIB := h_ hib; clear hib
 have hne1 : (c == 65533) = false := by simpa using hne
 have h128 : ¬ c < 128 := by omega
 have h00 : (0 : Int) <= c := by omega
 rcases enc_some h hv with ⟨a, b, he, ha, hb⟩ | h3
 ·have hb69 : (((69 : UInt8).toNat : Int) == (b.toNat : Int)) = false := by
   have : (69 : UInt8).toNat = 69 := rfl
   rw [beq_eq_false_iff_ne, this]; omega
  have hb69' : ((69 : Int) == (b.toNat : Int)) = false := by rw [beq_eq_false_iff_ne]; omega
  have hnb69 : ((69 : Int) != (b.toNat : Int)) = true := by unfold bne; rw [hb69']; rfl
  have hix : ((((⟨#[101, 69]⟩ : ByteArray)[1]'(by decide)).toNat : Int) != (((⟨#[a, b]⟩ : ByteArray)[1]'(by exact Nat.lt_of_lt_of_eq (by omega) (show 2 = (⟨#[a, b]⟩ : ByteArray).size from rfl))).toNat : Int)) = true := hnb69
  have hw2 : IntKind.i64.wrap 2 = 2 := by decide
  clear hv h hne ha hb
  go_enter Tryz.func162, Tryz.ntmps162
  go_wp2_with (first | (go_at_call 190; refine (HVR.out _).mono ?_; rintro e w2 ⟨rfl, hw⟩; subst hw) | fail)
  refine wp_scope_straight ?_
  go_wp2_with fail
  refine wp_loop_rounds 1 ?_
  rw [rounds_succ]
  go_wp2_with fail
  ·refine wp_scope_straight ?_
   go_wp2_with fail
   go_quiet (fail)
   have HB3 := h_ (drewN_below (Below.refl w2.heap.size w2) nq)
   generalize w2.drewN nq = w3 at HB3 ⊢
   go_wp2_with fail
   go_quiet ((go_at_call 110; exact Calls.quiet_of_same (HIB.out _ _)))
   go_wp2_with fail
   simp only [Exit.noGoto, Exit.inBlock, Exit.then]
   go_ret
   exact ⟨rfl, drewN_below HB3.out _⟩
 ·obtain ⟨L, hL⟩ := ex_ ((Utf8.encode c).size)
  rw [<- hL] at h3
  have hLs : (Utf8.encode c).size = L := hL.symm
  have hLm : L <= 4 := by
   have := (enc_len c).2
   unfold enc at this
   rw [ls_length] at this; omega
  have hw1 : IntKind.i64.wrap ((L : Int) - 1) = (L : Int) - 1 := IntWalk.i64_in _ (by omega)
  have hlt : ¬ ((L : Int) - 1) < 2 := by omega
  clear hv h hne hL
  go_enter Tryz.func162, Tryz.ntmps162
  go_wp2_with (first | (go_at_call 190; refine (HVR.out _).mono ?_; rintro e w2 ⟨rfl, hw⟩; subst hw) | fail)
  refine wp_scope_straight ?_
  go_wp2_with fail
  refine wp_loop_rounds 1 ?_
  rw [rounds_succ]
  go_wp2_with fail
  simp only [Exit.noGoto, Exit.inBlock]
  go_ret
  exact ⟨rfl, Below.refl _ _⟩
def idxE (l : Bytes) : Int := if l.dropWhile nE = [] then -1 else ((l.takeWhile nE).length : Int)
theorem idxE_app {A B : Bytes} {x : UInt8} (hp : ∀ y ∈ A, nE y = true) (hx : nE x = false) : idxE (A ++ x :: B) = (A.length : Int) := by
 unfold idxE
 rw [tw_all (p := nE) _ hp, dw_all (p := nE) _ hp, dw_neg hx, if_neg (by simp), List.takeWhile_cons_of_neg (by rw [hx]; simp), List.append_nil]
theorem idxE_hit {l : Bytes} {p : Nat} (h : p < l.length) (hp : ∀ y ∈ l.take p, nE y = true) (hx : nE (l[p]'h) = false) : idxE l = (p : Int) := by
 have e := idxE_app (B := l.drop (p + 1)) hp hx
 rw [<- List.drop_eq_getElem_cons h, List.take_append_drop, List.length_take] at e
 rw [e]
 omega
theorem idxE_none {l : Bytes} (hp : ∀ y ∈ l, nE y = true) : idxE l = -1 := by
 have : l.dropWhile nE = [] := by
  have := dw_all (p := nE) (d := l) [] hp
  simpa using this
 unfold idxE
 rw [if_pos this]
theorem nE_of (x : UInt8) : nE x = !(decide (b2 x = 101) || decide (b2 x = 69)) := byte_all (P := fun x => nE x = !(decide (b2 x = 101) || decide (b2 x = 69))) (by decide +kernel) x
theorem indexAny_idxE : ∀ l : Bytes, Lib.indexAny l [101, 69] = idxE l
 | [] => rfl
 | x :: r => by
  have ih := indexAny_idxE r
  have hge := Lib.indexAny_ge [101, 69] r
  unfold Lib.indexAny
  rw [ih]
  have hc : ([101, 69] : List UInt8).contains x = !(nE x) := byte_all (P := fun x => ([101, 69] : List UInt8).contains x = !(nE x)) (by decide +kernel) x
  rw [hc]
  cases hn : nE x with
  | false =>
   rw [if_pos (show (!false) = true from rfl)]
   unfold idxE
   rw [dw_neg hn, if_neg (by simp), List.takeWhile_cons_of_neg (by rw [hn]; simp)]
   rfl
  | true =>
   rw [if_neg (by simp)]
   unfold idxE
   rw [List.dropWhile_cons_of_pos hn, List.takeWhile_cons_of_pos hn]
   by_cases h : r.dropWhile nE = []
   ·rw [if_pos h, if_pos h]; rfl
   ·rw [if_neg h, if_neg h, if_neg (by simp), List.length_cons]
    omega
theorem sua_any (n : Int) (w : World) (h : n <= 8) : Calls Tryz.prog 191 #[.int .i64 n] w fun e w' => e = .returned (.bool false) ∧ w' = w := by
 refine (Any.strings_shouldUseASCIISet { Tryz.laysIA with } n w).mono ?_
 rintro e w' ⟨rfl, rfl⟩
 exact ⟨by rw [decide_eq_false (by omega)], rfl⟩
theorem idx_short (l : Bytes) (w : World) (hl : l.length <= 8) : Calls Tryz.prog 163 #[.string (bs l), .string ⟨#[101, 69]⟩] w fun e w' => e = .returned (.int .i64 (idxE l)) ∧ Below w.heap.size w w' := by
 obtain ⟨R, hR⟩ := ex_ (idxE l)
 rw [<- hR]
 have HR := h_ hR; clear hR
 have hdd := decode_drop l
 obtain ⟨t, ht⟩ := ex_ (bs l)
 have hsz : t.size = l.length := by rw [ht, bs_size]
 rw [<- ht] at hdd ⊢
 clear ht
 obtain ⟨N, hN⟩ := ex_ (t.size)
 have htN : t.size = N := hN.symm
 have hN8 : (N : Int) <= 8 := by omega
 have HSZ := h_ (show N = l.length by omega)
 have HDD := h_ hdd
 have HSU := h_ (fun W => sua_any (N : Int) W hN8)
 clear hN hsz hdd hl
 go_enter Tryz.func163, Tryz.ntmps163
 go_wp2_with (first | (go_at_call 191; refine (HSU.out _).mono ?_; rintro e w2 ⟨rfl, hw⟩; subst w2) | fail)
 go_loopw [9, 10] (fun _ _ wr => ∃ p : Nat, p <= N ∧ Hid (wr.heap[w.heap.size]? = some (.stringIter t p)) ∧ Hid (Below w.heap.size w wr) ∧ Hid (w.heap.size < wr.heap.size) ∧ Hid (∀ y ∈ l.take p, nE y = true)) (fun _ _ wr => N - wr.iterPos w.heap.size)
 case atStart => exact ⟨0, by omega, World.iter_heap _ _ _, (Below.refl _ _).alloc (Nat.le_refl _) _, h_ (by simp [World.iter]), fun y hy => by simp at hy⟩
 case round =>
  obtain ⟨p, hp, HI, HB, HL, HP⟩ := hrel
  by_cases hlt : p < N
  ·have hnx : ∀ ty, (Instr.next (.pointer (some ⟨w.heap.size, 0, none⟩)) true ty).run Tryz.prog wr = _ := fun ty => Lib.run_next_any_at wr w.heap.size t p ty HI.out (by omega)
   have hpl : p < l.length := by have := HSZ.out; omega
   rw [HDD.out p] at hnx
   have hx := List.drop_eq_getElem_cons hpl
   rw [hx] at hnx
   have hn := dr_len l[p] (l.drop (p + 1))
   have hr1 := dr1_lt (l[p] :: l.drop (p + 1))
   have hlen : (l.drop (p + 1)).length + 1 = N - p := by rw [List.length_drop]; have := HSZ.out; omega
   have hasc := fun (ha : b2 l[p] < 0x80) => dr_asc (x := l[p]) (l.drop (p + 1)) ha
   have hhi := fun (ha : 0x80 <= b2 l[p]) => dr_hi (x := l[p]) (l.drop (p + 1)) ha
   have hnE := nE_of l[p]
   have hrng := b2_lt l[p]
   have hhit := fun (ha : nE l[p] = false) => idxE_hit hpl HP.out ha
   have htake : ∀ k, 1 <= k -> (∀ y ∈ (l[p] :: l.drop (p + 1)).take k, nE y = true) -> ∀ y ∈ l.take (p + k), nE y = true := by
    intro k _ h y hy
    rw [<- hx] at h
    rw [List.take_add] at hy
    rcases List.mem_append.mp hy with hy | hy
    ·exact HP.out y hy
    ·exact h y hy
   obtain ⟨rn, sz, hD⟩ : ∃ rn sz, dr (l[p] :: l.drop (p + 1)) = (rn, sz) := ⟨_, _, rfl⟩
   rw [hD] at hnx hn hr1 hasc hhi
   simp only at hnx hn hr1 hhi
   have hIA := Lib.iterAt_heap wr w.heap.size t p (p + sz) HI.out
   have hIS := Lib.iterAt_size wr w.heap.size t (p + sz)
   have hBA := Lib.below_iterAt (HB.out) (k := w.heap.size) (Nat.le_refl _) t (p + sz)
   obtain ⟨wi, hwi⟩ := ex_ (wr.iterAt w.heap.size t (p + sz))
   rw [<- hwi] at hIA hIS hBA hnx
   have hpos : wr.iterPos w.heap.size = p := iterPos_of HI.out
   have hlt2 : w.heap.size < wi.heap.size := by rw [hIS]; exact HL.out
   have HIA := h_ hIA; clear hIA
   have HBA := h_ hBA; clear hBA hIS
   have HPOS := h_ hpos; clear hpos
   have HLT := h_ hlt2
   clear hwi hD hx HI HB HL HP hlt2
   have hps : p + sz <= N := by omega
   by_cases ha : b2 l[p] < 0x80
   ·have e := hasc ha
    have e1 : rn = l[p].toNat := congrArg Prod.fst e
    have e2 : sz = 1 := congrArg Prod.snd e
    subst e2
    have hrb : (rn : Int) = b2 l[p] := by rw [e1]; rfl
    have HIR := h_ (fun W => ir_asc (rn : Int) W (by omega) (by omega))
    have HTK := h_ (htake 1 (Nat.le_refl _))
    cases hq : nE l[p] with
    | false =>
     have hR2 : R = (p : Int) := by rw [HR.out]; exact hhit hq
     have hge : ¬ (hitE (rn : Int)) < 0 := by
      rw [hnE, <- hrb] at hq
      unfold hitE
      by_cases h1 : (rn : Int) = 101
      ·rw [if_pos h1]; omega
      ·by_cases h2 : (rn : Int) = 69
       ·rw [if_neg h1, if_pos h2]; omega
       ·simp [h1, h2] at hq
     subst hR2
     generalize hitE (rn : Int) = hv at HIR hge
     have hge2 : (0 : Int) <= hv := by omega
     clear hasc hhi hhit htake hnE hq hrng hlen hn e e1 hrb ha HTK
     go_wp2_with (first | (go_at_call 162; refine (HIR.out _).mono ?_; rintro e w2 ⟨rfl, hb⟩; have HB2 := h_ hb; clear hb) | fail)
     go_ret
     exact ⟨rfl, HBA.out.trans (HB2.out.mono (Nat.le_of_lt HLT.out))⟩
    | true =>
     have hge : hitE (rn : Int) = -1 := by
      rw [hnE, <- hrb] at hq
      unfold hitE
      by_cases h1 : (rn : Int) = 101
      ·simp [h1] at hq
      ·by_cases h2 : (rn : Int) = 69
       ·simp [h2] at hq
       ·rw [if_neg h1, if_neg h2]
     rw [hge] at HIR
     have HTK2 := h_ (HTK.out (fun y hy => by rw [List.mem_singleton.mp (show y ∈ [l[p]] from hy)]; exact hq))
     clear hasc hhi hhit htake hnE hq hrng hlen hn e e1 hrb ha HTK hge
     go_wp2_with (first | (go_at_call 162; refine (HIR.out _).mono ?_; rintro e w2 ⟨rfl, hb⟩; have HB2 := h_ hb; clear hb) | fail)
     go_roundw
     case rel => exact ⟨p + 1, by omega, (HB2.out.block _ HLT.out).trans HIA.out, HBA.out.trans (HB2.out.mono (Nat.le_of_lt HLT.out)), Nat.lt_of_lt_of_le HLT.out HB2.out.size, HTK2.out⟩
     case measure =>
      have e2 : w2.iterPos w.heap.size = p + 1 := iterPos_of ((HB2.out.block _ HLT.out).trans HIA.out)
      rw [e2, HPOS.out]
      omega
   ·obtain ⟨h1, h2⟩ := hhi (by omega)
    have hirh : ∀ W, Calls Tryz.prog 162 #[.string ⟨#[101, 69]⟩, .int .i32 rn] W fun e w' => e = .returned (.int .i64 (-1)) ∧ Below W.heap.size W w' := by
     intro W
     rcases h1 with h1 | ⟨h1, h3⟩
     ·subst h1; exact ir_bad W
     ·by_cases h4 : rn = 65533
      ·subst h4; exact ir_bad W
      ·exact ir_hi (rn : Int) W (by omega) (by omega) h3 (by omega)
    have HIR := h_ hirh
    have HTK2 := h_ (htake sz hn.1 (fun y hy => by
     have := h2 y hy
     rw [nE_of]
     have a1 : ¬ b2 y = 101 := by omega
     have a2 : ¬ b2 y = 69 := by omega
     simp [a1, a2]))
    have hn1 := hn.1
    clear hasc hhi hhit htake hnE hrng hlen hn ha h1 h2 hirh
    go_wp2_with (first | (go_at_call 162; refine (HIR.out _).mono ?_; rintro e w2 ⟨rfl, hb⟩; have HB2 := h_ hb; clear hb) | fail)
    go_roundw
    case rel => exact ⟨p + sz, by omega, (HB2.out.block _ HLT.out).trans HIA.out, HBA.out.trans (HB2.out.mono (Nat.le_of_lt HLT.out)), Nat.lt_of_lt_of_le HLT.out HB2.out.size, HTK2.out⟩
    case measure =>
     have e2 : w2.iterPos w.heap.size = p + sz := iterPos_of ((HB2.out.block _ HLT.out).trans HIA.out)
     rw [e2, HPOS.out]
     omega
  ·obtain rfl : p = N := by omega
   have hnx : ∀ ty, (Instr.next (.pointer (some ⟨w.heap.size, 0, none⟩)) true ty).run Tryz.prog wr = _ := fun ty => Lib.run_next_end_at wr w.heap.size t p ty HI.out (by omega)
   have hR2 : R = -1 := by
    rw [HR.out]
    refine idxE_none fun y hy => HP.out y ?_
    rw [List.take_of_length_le (by have := HSZ.out; omega)]
    exact hy
   subst hR2
   go_wp2_with fail
   go_ret
   exact ⟨rfl, HB.out⟩
theorem idx_any (l : Bytes) (w : World) (hl : l.length <= 1024000000) : Calls Tryz.prog 163 #[.string (bs l), .string (bs [101, 69])] w fun e w' => e = .returned (.int .i64 (idxE l)) ∧ Below w.heap.size w w' := by
 by_cases h8 : l.length <= 8
 ·exact idx_short l w h8
 ·have h116 : (Tryz.prog.info? (Tryz.laysIA_ren.t 116)).map (fun i => (i.zero, i.size)) = some (some (.agg (Array.replicate 256 (.bool false))), 256) := by kernel_rfl
  have h := Any.strings_IndexAny_long Tryz.laysIA (zero_of_info h116).1 (zero_of_info h116).2 (bs l) (bs [101, 69]) w (by decide) (by rw [bs_size]; omega) (by rw [bs_size]; omega) (by decide)
   (ascii_of_all (by decide))
  rw [show (bs l).data.toList = l from ls_bs l, show (bs [101, 69]).data.toList = [101, 69] from ls_bs _, indexAny_idxE] at h
  refine h.mono ?_
  rintro e w' ⟨rfl, rfl⟩
  refine ⟨rfl, ?_⟩
  have b1 : ∀ o, Below w.heap.size w (w.alloc o) := fun o => (Below.refl w.heap.size w).alloc (Nat.le_refl _) o
  exact (b1 _).alloc (b1 _).size _

theorem whole_lim {l : Bytes} {n : Int} (h : wholeF l = some n) : 0 <= n ∧ n <= 9223372036854775807 := by
 have key : ∀ (l : Bytes) (m v : Int), 0 <= m ∧ m <= 9223372036854775807 -> whGo m l = some v -> 0 <= v ∧ v <= 9223372036854775807 := by
  intro l
  induction l with
  | nil => intro m v h1 h2; rw [whGo] at h2; cases h2; exact h1
  | cons c t ih =>
   intro m v h1 h2
   rw [whGo] at h2
   split at h2
   ·cases h2
   ·next hd =>
    refine ih _ v ?_ h2
    have := dgt10 (b2 c)
    split <;> omega
 unfold wholeF at h
 split at h
 ·cases h
 ·exact key l 0 n (by omega) h
def expM (s : Bytes) : Bytes := if s.head? = some 43 then s.drop 1 else s
theorem exponent_any (s : Bytes) (w : World) (hl : s.length <= 1024000000) :
  Calls Tryz.prog 164 #[.string (bs s)] w fun e w' => e = .returned (.tuple #[.int .i64 ((expF s).getD 0), .bool (expF s).isSome]) ∧ w' = w := by
 have hcp := fun W => cp_any s [45] W
 rw [hp1, tp1] at hcp
 by_cases h1 : s.head? = some 45
 ·have hcp2 : ∀ W, Calls Tryz.prog 131 #[.string (bs s), .string (bs [45])] W fun e w' => e = .returned (.tuple #[S (s.drop 1), .bool true]) ∧ w' = W := fun W => by
   have := hcp W
   rw [if_pos h1, decide_eq_true h1] at this
   exact this
  have hwh := fun W => whole_any (s.drop 1) W (by rw [List.length_drop]; omega)
  have hE : expF s = if 4 < (s.drop 1).length then none else (wholeF (s.drop 1)).map fun n => -n := by unfold expF; rw [if_pos h1]
  rw [hE]
  clear hE hcp h1
  have hml : (s.drop 1).length <= 1024000000 := by rw [List.length_drop]; omega
  generalize s.drop 1 = m at *
  obtain ⟨t, ht⟩ := ex_ (bs s)
  obtain ⟨u, hu⟩ := ex_ (bs m)
  have husz : u.size = m.length := by rw [hu, bs_size]
  have HCP := h_ (show ∀ W, Calls Tryz.prog 131 #[.string t, .string ⟨#[45]⟩] W fun e w' => e = .returned (.tuple #[.string u, .bool true]) ∧ w' = W from by rw [ht, hu]; exact hcp2)
  have HWH := h_ (show ∀ W, Calls Tryz.prog 135 #[.string u] W fun e w' => e = .returned (.tuple #[.int .i64 ((wholeF m).getD 0), .bool (wholeF m).isSome]) ∧ w' = W from by rw [hu]; exact hwh)
  rw [<- ht]
  clear hcp2 hwh ht hu hl
  obtain ⟨N, hN⟩ := ex_ (u.size)
  have huN : u.size = N := hN.symm
  rw [<- husz, huN]
  have hNm : N <= 1024000000 := by omega
  clear hN husz hml
  by_cases h4 : 4 < N
  ·rw [if_pos h4]
   have h4i : (4 : Int) < (N : Int) := by omega
   go_enter Tryz.func164, Tryz.ntmps164
   go_wp2_with (first
    | (go_at_call 131; refine (HCP.out _).mono ?_; rintro e w2 ⟨rfl, hw⟩; subst hw)
    | fail)
   go_ret2
   exact ⟨rfl, rfl⟩
  ·rw [if_neg h4]
   have h4i : ¬ (4 : Int) < (N : Int) := by omega
   cases hR : wholeF m with
   | none =>
    have HW2 := h_ (show ∀ W, Calls Tryz.prog 135 #[.string u] W fun e w' => e = .returned (.tuple #[.int .i64 0, .bool false]) ∧ w' = W from fun W => by have := HWH.out W; rw [hR] at this; exact this)
    clear hR HWH
    go_enter Tryz.func164, Tryz.ntmps164
    go_wp2_with (first
     | (go_at_call 131; refine (HCP.out _).mono ?_; rintro e w2 ⟨rfl, hw⟩; subst hw)
     | (go_at_call 135; refine (HW2.out _).mono ?_; rintro e w2 ⟨rfl, hw⟩; subst hw)
     | fail)
    go_ret2
    exact ⟨rfl, rfl⟩
   | some n =>
    have hlim := whole_lim hR
    have hng : IntKind.i64.wrap (-n) = -n := IntWalk.i64_in _ (by omega)
    have HW2 := h_ (show ∀ W, Calls Tryz.prog 135 #[.string u] W fun e w' => e = .returned (.tuple #[.int .i64 n, .bool true]) ∧ w' = W from fun W => by have := HWH.out W; rw [hR] at this; exact this)
    clear hR HWH
    go_enter Tryz.func164, Tryz.ntmps164
    go_wp2_with (first
     | (go_at_call 131; refine (HCP.out _).mono ?_; rintro e w2 ⟨rfl, hw⟩; subst hw)
     | (go_at_call 135; refine (HW2.out _).mono ?_; rintro e w2 ⟨rfl, hw⟩; subst hw)
     | fail)
    go_ret2
    exact ⟨rfl, rfl⟩
 ·have hcp2 : ∀ W, Calls Tryz.prog 131 #[.string (bs s), .string (bs [45])] W fun e w' => e = .returned (.tuple #[S s, .bool false]) ∧ w' = W := fun W => by
   have := hcp W
   rw [if_neg h1, decide_eq_false h1] at this
   exact this
  have htp := fun W => tp_any s [43] W
  rw [tp1] at htp
  have hE : expF s = if 4 < (expM s).length then none else wholeF (expM s) := by unfold expF expM; rw [if_neg h1]
  have htp2 : ∀ W, Calls Tryz.prog 192 #[.string (bs s), .string (bs [43])] W fun e w' => e = .returned (S (expM s)) ∧ w' = W := htp
  have hml : (expM s).length <= 1024000000 := by
   unfold expM
   split
   ·rw [List.length_drop]; omega
   ·exact hl
  have hwh := fun W => whole_any (expM s) W hml
  rw [hE]
  clear hE hcp h1 htp
  generalize expM s = m at *
  obtain ⟨t, ht⟩ := ex_ (bs s)
  obtain ⟨u, hu⟩ := ex_ (bs m)
  have husz : u.size = m.length := by rw [hu, bs_size]
  have HCP := h_ (show ∀ W, Calls Tryz.prog 131 #[.string t, .string ⟨#[45]⟩] W fun e w' => e = .returned (.tuple #[.string t, .bool false]) ∧ w' = W from by rw [ht]; exact hcp2)
  have HTP := h_ (show ∀ W, Calls Tryz.prog 192 #[.string t, .string ⟨#[43]⟩] W fun e w' => e = .returned (.string u) ∧ w' = W from by rw [ht, hu]; exact htp2)
  have HWH := h_ (show ∀ W, Calls Tryz.prog 135 #[.string u] W fun e w' => e = .returned (.tuple #[.int .i64 ((wholeF m).getD 0), .bool (wholeF m).isSome]) ∧ w' = W from by rw [hu]; exact hwh)
  rw [<- ht]
  clear hcp2 hwh htp2 ht hu hl
  obtain ⟨N, hN⟩ := ex_ (u.size)
  have huN : u.size = N := hN.symm
  rw [<- husz, huN]
  have hNm : N <= 1024000000 := by omega
  clear hN husz hml
  by_cases h4 : 4 < N
  ·rw [if_pos h4]
   have h4i : (4 : Int) < (N : Int) := by omega
   go_enter Tryz.func164, Tryz.ntmps164
   go_wp2_with (first
    | (go_at_call 131; refine (HCP.out _).mono ?_; rintro e w2 ⟨rfl, hw⟩; subst hw)
    | (go_at_call 192; refine (HTP.out _).mono ?_; rintro e w2 ⟨rfl, hw⟩; subst hw)
    | fail)
   go_ret2
   exact ⟨rfl, rfl⟩
  ·rw [if_neg h4]
   have h4i : ¬ (4 : Int) < (N : Int) := by omega
   generalize wholeF m = R at *
   go_enter Tryz.func164, Tryz.ntmps164
   go_wp2_with (first
    | (go_at_call 131; refine (HCP.out _).mono ?_; rintro e w2 ⟨rfl, hw⟩; subst hw)
    | (go_at_call 192; refine (HTP.out _).mono ?_; rintro e w2 ⟨rfl, hw⟩; subst hw)
    | (go_at_call 135; refine (HWH.out _).mono ?_; rintro e w2 ⟨rfl, hw⟩; subst hw)
    | fail)
   go_ret2
   exact ⟨rfl, rfl⟩

def sgnF (q : Bool) (p : Option (Int × Int)) : Nat × Bool := match p with
 | none => (0, false)
 | some p => (fltB ⟨q, p.1, p.2⟩, true)
def floE (s : Bytes) : Nat × Bool := match floF s with
 | none => (0, false)
 | some f => (fltB f, true)
theorem floE_is (s : Bytes) : floE s = sgnF (decide (s.head? = some 45)) (floT (if s.head? = some 45 then s.drop 1 else s)) := by
 unfold floE floF sgnF
 by_cases h : s.head? = some 45
 ·rw [if_pos h, if_pos h, decide_eq_true h]
  cases floT (s.drop 1) <;> rfl
 ·rw [if_neg h, if_neg h, decide_eq_false h]
  cases floT s <;> rfl
theorem tw_ext {t : Bytes} {e : UInt8} {u : Bytes} (h : t.dropWhile nE = e :: u) : t.take (t.takeWhile nE).length = t.takeWhile nE ∧ t.drop ((t.takeWhile nE).length + 1) = u ∧ (t.takeWhile nE).length < t.length := by
 have e1 : t.takeWhile nE ++ t.dropWhile nE = t := List.takeWhile_append_dropWhile
 rw [h] at e1
 generalize t.takeWhile nE = A at *
 subst e1
 refine ⟨List.take_left' rfl, ?_, by rw [List.length_append, List.length_cons]; omega⟩
 rw [show A ++ e :: u = (A ++ [e]) ++ u by simp]
 exact List.drop_left' (by simp)
theorem floW_eq {x w1 w2 : Bytes} {pt : Bool} {m : Int} (h : cut1 46 x = (w1, w2, pt)) : floW x m = if (pt = true ∧ w2 = []) ∨ 15 < w1.length + w2.length then none
 else match wholeF (w1 ++ w2) with
  | none => none
  | some n => if m - (w2.length : Int) < -22 ∨ 22 < m - (w2.length : Int) then none else some (n, m - (w2.length : Int)) := by
 unfold floW
 simp only [h]
 rfl
theorem cut1_sum (c : UInt8) : ∀ (s : Bytes), (cut1 c s).1.length + (cut1 c s).2.1.length <= s.length
 | [] => Nat.le_refl _
 | x :: r => by
  have ih := cut1_sum c r
  unfold cut1
  split <;> (simp only [List.length_cons, List.length_nil]; omega)
theorem whole_4 {l : Bytes} {n : Int} (h : wholeF l = some n) (hl : l.length <= 4) : n <= 9999 := by
 have key : ∀ (l : Bytes) (m v : Int) (k : Nat), l.length = k -> k <= 4 -> 0 <= m -> m <= 10 ^ (4 - k) - 1 -> whGo m l = some v -> v <= 9999 := by
  intro l
  induction l with
  | nil => intro m v k h1 h2 h3 h4 h5; rw [whGo] at h5; cases h5; simp at h1; subst h1; simpa using h4
  | cons c t ih =>
   intro m v k h1 h2 h3 h4 h5
   rw [whGo] at h5
   rw [List.length_cons] at h1
   split at h5
   ·cases h5
   ·next hd =>
    have hq := dgt10 (b2 c)
    have hp : m <= 9999 := by
     have : k = 1 ∨ k = 2 ∨ k = 3 ∨ k = 4 := by omega
     rcases this with rfl | rfl | rfl | rfl <;> (simp at h4; omega)
    rw [if_neg (by omega)] at h5
    refine ih _ v (k - 1) (by omega) (by omega) (by omega) ?_ h5
    have : k = 1 ∨ k = 2 ∨ k = 3 ∨ k = 4 := by omega
    rcases this with rfl | rfl | rfl | rfl <;> (simp at h4 ⊢; omega)
 unfold wholeF at h
 split at h
 ·cases h
 ·exact key l 0 n l.length rfl hl (by omega) (by
   have : l.length = 0 ∨ l.length = 1 ∨ l.length = 2 ∨ l.length = 3 ∨ l.length = 4 := by omega
   rcases this with h | h | h | h | h <;> rw [h] <;> decide) h
theorem exp_lim {s : Bytes} {n : Int} (h : expF s = some n) : -9999 <= n ∧ n <= 9999 := by
 have key : ∀ {l : Bytes} {v : Int}, (if 4 < l.length then none else wholeF l) = some v -> 0 <= v ∧ v <= 9999 := by
  intro l v h
  split at h
  ·cases h
  ·next h4 => exact ⟨(whole_lim h).1, whole_4 h (by omega)⟩
 unfold expF at h
 by_cases h1 : s.head? = some 45
 ·rw [if_pos h1] at h
  split at h
  ·cases h
  ·next h4 =>
   rw [Option.map_eq_some_iff] at h
   obtain ⟨v, h2, rfl⟩ := h
   have := whole_lim h2
   have := whole_4 h2 (by omega)
   omega
 ·rw [if_neg h1] at h
  have := key h
  omega
theorem neg_run {P : Program} (W : World) (x : Nat) : (Op.unary .neg (.float .f64 x)).run P W = .ok (.float .f64 (Op.negFloat .f64 x)) W := rfl
theorem moveB_ok (n : Int) {m : Int} (h : -22 <= m ∧ m <= 22) (W : World) : Calls Tryz.prog 165 #[.float .f64 (floatOfInt .f64 n), .int .i64 m] W fun e w' => e = .returned (.float .f64 (moveB (floatOfInt .f64 n) m)) ∧ w' = W := move_any _ m W (int_ok n) h.1 h.2
theorem float_any (s : Bytes) (w : World) (hl : s.length <= 1024000000) (hE : Env w) :
  Calls Tryz.prog 136 #[.string (bs s)] w fun e w' => e = .returned (.tuple #[.float .f64 (floE s).1, .bool (floE s).2]) ∧ Below w.heap.size w w' := by
 rw [floE_is]
 have hcp := fun W => cp_any s [45] W
 rw [hp1, tp1] at hcp
 have hxl : (if s.head? = some 45 then s.drop 1 else s).length <= 1024000000 := by
  split
  ·rw [List.length_drop]; omega
  ·exact hl
 generalize (if s.head? = some 45 then s.drop 1 else s) = a at *
 generalize decide (s.head? = some 45) = q at *
 have hia := fun W => idx_any a W hxl
 obtain ⟨t0, ht0⟩ := ex_ (bs s)
 obtain ⟨t, ht⟩ := ex_ (bs a)
 have HCP := h_ (show ∀ W, Calls Tryz.prog 131 #[.string t0, .string ⟨#[45]⟩] W fun e w' => e = .returned (.tuple #[.string t, .bool q]) ∧ w' = W from by rw [ht0, ht]; exact hcp)
 have hia2 : ∀ W, Calls Tryz.prog 163 #[.string t, .string ⟨#[101, 69]⟩] W fun e w' => e = .returned (.int .i64 (idxE a)) ∧ Below W.heap.size W w' := by rw [ht]; exact hia
 rw [<- ht0]
 clear hcp hia ht0 hl
 have htsz : t.size = a.length := by rw [ht, bs_size]
 have hcase : (a.dropWhile nE = []) ∨ (∃ e u, a.dropWhile nE = e :: u ∧ expF u = none) ∨ (∃ e u m, a.dropWhile nE = e :: u ∧ expF u = some m) := by
  cases h : a.dropWhile nE with
  | nil => exact .inl rfl
  | cons e u =>
   cases h2 : expF u with
   | none => exact .inr (.inl ⟨e, u, rfl, h2⟩)
   | some m => exact .inr (.inr ⟨e, u, m, rfl, h2⟩)
 rcases hcase with hA | ⟨e0, u, hB, hB2⟩ | ⟨e0, u, M, hC, hC2⟩
 case inr.inl =>
  have hR : sgnF q (floT a) = (0, false) := by unfold floT; rw [hB]; simp only [hB2]; rfl
  rw [hR]
  obtain ⟨k1, k2, k3⟩ := tw_ext hB
  obtain ⟨K, hK⟩ := ex_ ((a.takeWhile nE).length)
  rw [<- hK] at k1 k2 k3
  have hix : idxE a = (K : Int) := by unfold idxE; rw [hB, if_neg (by simp), hK]
  rw [hix] at hia2
  have hul : u.length <= 1024000000 := by rw [<- k2, List.length_drop]; omega
  have hex := fun W => exponent_any u W hul
  rw [hB2] at hex
  obtain ⟨N, hN⟩ := ex_ (t.size)
  have htN : t.size = N := hN.symm
  obtain ⟨K1, hK1e⟩ := ex_ (K + 1)
  have hcut : t.extract K1 N = bs u := by rw [hK1e, ht, ext_all a (K + 1) N (by omega), k2]
  obtain ⟨tu, htu⟩ := ex_ (bs u)
  rw [<- htu] at hcut hex
  have HIA := h_ hia2
  have HEX := h_ hex
  have hKN : K < N := by omega
  have hNm : N <= 1024000000 := by omega
  have hw1 : IntKind.i64.wrap ((K : Int) + 1) = (K1 : Int) := by rw [IntWalk.i64_in _ (by omega)]; omega
  have hK1 : K1 <= N := by omega
  clear hK1e
  clear hix hia2 hex hB hB2 hR k1 k2 k3 hK hul htu ht htsz hxl hN
  go_enter Tryz.func136, Tryz.ntmps136
  go_wp2_with (first
   | (go_at_call 131; refine (HCP.out _).mono ?_; rintro e w2 ⟨rfl, hw⟩; subst w2)
   | (go_at_call 163; refine (HIA.out _).mono ?_; rintro e wi ⟨rfl, hb⟩; have HBI := h_ hb; clear hb)
   | (go_at_call 164; refine (HEX.out _).mono ?_; rintro e w2 ⟨rfl, hw⟩; subst w2)
   | fail)
  go_ret2
  exact ⟨rfl, HBI.out⟩
 case' inl =>
  obtain ⟨M, hM⟩ : ∃ M : Int, M = 0 := ⟨0, rfl⟩
  have hMl : -9999 <= M ∧ M <= 9999 := by omega
  have hR : sgnF q (floT a) = sgnF q (floW a M) := by unfold floT; rw [hA, hM]
  have HM0 := h_ hM
  clear hM
  have hix : idxE a = -1 := by unfold idxE; rw [if_pos hA]
  rw [hR]
  rw [hix] at hia2
  have HIA := h_ hia2
  obtain ⟨x, hx⟩ := ex_ (a)
  obtain ⟨T, hT⟩ := ex_ (t)
  have HTX := h_ (show T = bs x by rw [hT, hx, ht])
  have hxl2 : x.length <= 1024000000 := by rw [hx]; exact hxl
  rw [<- hx]
  rw [<- hT] at HIA HCP
  clear hR hix hia2 hA ht htsz hxl hx hT
  go_enter Tryz.func136, Tryz.ntmps136
  go_upto_region 9 with (first
   | (go_at_call 131; refine (HCP.out _).mono ?_; rintro e w2 ⟨rfl, hw⟩; subst w2)
   | (go_at_call 163; refine (HIA.out _).mono ?_; rintro e wi ⟨rfl, hb⟩; have HBI := h_ hb; clear hb)
   | (go_at_call 164; refine (HEX.out _).mono ?_; rintro e w2 ⟨rfl, hw⟩; subst w2)
   | fail)
 case' inr.inr =>
  obtain ⟨k1, k2, k3⟩ := tw_ext hC
  have hR : sgnF q (floT a) = sgnF q (floW (a.takeWhile nE) M) := by unfold floT; rw [hC]; simp only [hC2]
  rw [hR]
  obtain ⟨x, hx⟩ := ex_ (a.takeWhile nE)
  rw [<- hx] at k1 k2 k3 ⊢
  obtain ⟨K, hK⟩ := ex_ (x.length)
  rw [<- hK] at k1 k2 k3
  have hix : idxE a = (K : Int) := by unfold idxE; rw [hC, if_neg (by simp), <- hx, hK]
  rw [hix] at hia2
  have hul : u.length <= 1024000000 := by rw [<- k2, List.length_drop]; omega
  have hex := fun W => exponent_any u W hul
  rw [hC2] at hex
  have hMl := exp_lim hC2
  obtain ⟨N, hN⟩ := ex_ (t.size)
  have htN : t.size = N := hN.symm
  obtain ⟨K1, hK1e⟩ := ex_ (K + 1)
  have hcut : t.extract K1 N = bs u := by rw [hK1e, ht, ext_all a (K + 1) N (by omega), k2]
  obtain ⟨T, hT⟩ := ex_ (bs x)
  have hcut0 : t.extract 0 K = T := by rw [ht, ext_to, k1, hT]
  have HTX := h_ hT
  obtain ⟨tu, htu⟩ := ex_ (bs u)
  rw [<- htu] at hcut hex
  have HIA := h_ hia2
  have HEX := h_ (show ∀ W, Calls Tryz.prog 164 #[.string tu] W fun e w' => e = .returned (.tuple #[.int .i64 M, .bool true]) ∧ w' = W from hex)
  have hKN : K < N := by omega
  have hNm : N <= 1024000000 := by omega
  have hxl2 : x.length <= 1024000000 := by omega
  have hw1 : IntKind.i64.wrap ((K : Int) + 1) = (K1 : Int) := by rw [IntWalk.i64_in _ (by omega)]; omega
  have hK1 : K1 <= N := by omega
  clear hK1e
  have hK0 : K <= N := by omega
  clear hix hia2 hex hC hC2 hR k1 k2 k3 hx hK hul htu ht htsz hxl hN hT
  go_enter Tryz.func136, Tryz.ntmps136
  go_upto_region 9 with (first
   | (go_at_call 131; refine (HCP.out _).mono ?_; rintro e w2 ⟨rfl, hw⟩; subst w2)
   | (go_at_call 163; refine (HIA.out _).mono ?_; rintro e wi ⟨rfl, hb⟩; have HBI := h_ hb; clear hb)
   | (go_at_call 164; refine (HEX.out _).mono ?_; rintro e w2 ⟨rfl, hw⟩; subst w2)
   | fail)
 all_goals
  have hTx := HTX.out
  obtain ⟨p1, p2, pt, hcut⟩ : ∃ a b c, cut1 46 x = (a, b, c) := ⟨_, _, _, rfl⟩
  have hcl := cut1_sum 46 x
  rw [hcut] at hcl
  simp only at hcl
  have hf := floW_eq (m := M) hcut
  have hsc := fun W (hb : Below w.heap.size w W) => scut_any x [46] W hxl2 (hE.below hb)
  rw [lcut1, hcut] at hsc
  simp only at hsc
  have hwh := fun W => whole_any (p1 ++ p2) W (by rw [List.length_append]; omega)
  have hcat := bs_app p1 p2
  obtain ⟨U, hU⟩ := ex_ (bs (p1 ++ p2))
  rw [<- hU] at hwh hcat
  obtain ⟨U1, hU1⟩ := ex_ (bs p1)
  obtain ⟨U2, hU2⟩ := ex_ (bs p2)
  have hs1 : U1.size = p1.length := by rw [hU1, bs_size]
  have hs2 : U2.size = p2.length := by rw [hU2, bs_size]
  have hemp : U2.toList = [] ↔ p2 = [] := by rw [hU2, toList_bs]
  have HSC := h_ (show ∀ W, Below w.heap.size w W -> Calls Tryz.prog 48 #[.string T, .string ⟨#[46]⟩] W fun e w' => e = .returned (.tuple #[.string U1, .string U2, .bool pt]) ∧ Below W.heap.size W w' from by rw [hTx, hU1, hU2]; exact hsc)
  rw [<- hU1, <- hU2] at hcat
  clear hsc hU hU1 hU2 hcut hTx
  obtain ⟨N1, hN1⟩ := ex_ (U1.size)
  obtain ⟨N2, hN2⟩ := ex_ (U2.size)
  have hUN1 : U1.size = N1 := hN1.symm
  have hUN2 : U2.size = N2 := hN2.symm
  rw [<- hs1, <- hs2, hUN1, hUN2] at hf
  have hNl : N1 <= 1024000000 ∧ N2 <= 1024000000 := by omega
  have hsum : IntKind.i64.wrap ((N1 : Int) + (N2 : Int)) = (N1 : Int) + (N2 : Int) := IntWalk.i64_in _ (by omega)
  have hcz : ¬ 9223372036854775807 < N1 + N2 := by omega
  have hcz2 : ¬ 9223372036854775807 < U1.size + U2.size := by omega
  obtain ⟨K, hK⟩ : ∃ K : Int, K = M - (N2 : Int) := ⟨_, rfl⟩
  have hwk : IntKind.i64.wrap (M - (N2 : Int)) = K := by rw [hK]; exact IntWalk.i64_in _ (by omega)
  have hwk2 : IntKind.i64.wrap (-(N2 : Int)) = -(N2 : Int) := IntWalk.i64_in _ (by omega)
  have hwk3 : M - (N2 : Int) = K := hK.symm
  rw [<- hK] at hf
  try (have hM := HM0.out; subst hM; have hwk4 : -(N2 : Int) = K := by omega)
  clear hcl hs1 hs2 hN1 hN2 hK
  by_cases hz : pt = true ∧ p2 = []
  ·rw [if_pos (.inl hz)] at hf
   obtain ⟨rfl, hz2⟩ := hz
   have he := hemp.mpr hz2
   have he1 : U2.toList.isEmpty = true := by simpa using he
   have HF := h_ (congrArg (sgnF q) hf)
   clear hf hemp hz2 hwh hcat hsum hcz hcz2 hwk hwk2 hwk3
   go_wp2_with (first
    | (go_at_call 48; refine (HSC.out _ HBI.out).mono ?_; rintro e w5 ⟨rfl, hb⟩; have HB5 := h_ (stp HBI.out hb); clear hb)
    | fail)
   all_goals
    go_ret2
    exact ⟨by rw [HF.out]; rfl, HB5.out⟩
  ·have hpt : pt = false ∨ (pt = true ∧ p2 ≠ []) := by
    cases pt with
    | false => exact .inl rfl
    | true => exact .inr ⟨rfl, fun h => hz ⟨rfl, h⟩⟩
   have hpe : pt = true -> (¬ U2.toList = [] ∧ U2.toList.isEmpty = false) := fun h => by
    have h1 : ¬ U2.toList = [] := fun h2 => hz ⟨h, hemp.mp h2⟩
    exact ⟨h1, by simpa using h1⟩
   have hpt2 : pt = false ∨ (pt = true ∧ ¬ U2.toList = [] ∧ U2.toList.isEmpty = false) := by
    rcases hpt with h | ⟨h, _⟩
    ·exact .inl h
    ·exact .inr ⟨h, hpe h⟩
   clear hpe hpt hemp
   by_cases h15 : 15 < N1 + N2
   ·rw [if_pos (.inr h15)] at hf
    have HF := h_ (congrArg (sgnF q) hf)
    have h15i : (15 : Int) < (N1 : Int) + (N2 : Int) := by omega
    clear hf hz hwh hcat hwk hwk2 hwk3 h15
    rcases hpt2 with rfl | ⟨rfl, he, he1⟩ <;>
    ·go_wp2_with (first
      | (go_at_call 48; refine (HSC.out _ HBI.out).mono ?_; rintro e w5 ⟨rfl, hb⟩; have HB5 := h_ (stp HBI.out hb); clear hb)
      | fail)
     all_goals
      go_ret2
      exact ⟨by rw [HF.out]; rfl, HB5.out⟩
   ·rw [if_neg (fun h => h.elim hz h15)] at hf
    have h15i : ¬ (15 : Int) < (N1 : Int) + (N2 : Int) := by omega
    clear hz h15
    cases hR : wholeF (p1 ++ p2) with
    | none =>
     rw [hR] at hf hwh
     have HWH := h_ (show ∀ W, Calls Tryz.prog 135 #[.string U] W fun e w' => e = .returned (.tuple #[.int .i64 0, .bool false]) ∧ w' = W from hwh)
     have HF := h_ (congrArg (sgnF q) hf)
     clear hf hwh hR
     rcases hpt2 with rfl | ⟨rfl, he, he1⟩ <;>
     ·go_wp2_with (first
       | (go_at_call 48; refine (HSC.out _ HBI.out).mono ?_; rintro e w5 ⟨rfl, hb⟩; have HB5 := h_ (stp HBI.out hb); clear hb)
       | (go_at_call 135; refine (HWH.out _).mono ?_; rintro e w6 ⟨rfl, hw⟩; subst w6)
       | fail)
      all_goals
       go_ret2
       exact ⟨by rw [HF.out]; rfl, HB5.out⟩
    | some n =>
     rw [hR] at hf hwh
     simp only at hf
     have HWH := h_ (show ∀ W, Calls Tryz.prog 135 #[.string U] W fun e w' => e = .returned (.tuple #[.int .i64 n, .bool true]) ∧ w' = W from hwh)
     have hn0 := whole_lim hR
     clear hwh hR
     by_cases hr : K < -22 ∨ 22 < K
     ·rw [if_pos hr] at hf
      have HF := h_ (congrArg (sgnF q) hf)
      clear hf
      rcases hr with h1 | h1
      ·rcases hpt2 with rfl | ⟨rfl, he, he1⟩ <;>
       ·go_wp2_with (first
         | (go_at_call 48; refine (HSC.out _ HBI.out).mono ?_; rintro e w5 ⟨rfl, hb⟩; have HB5 := h_ (stp HBI.out hb); clear hb)
         | (go_at_call 135; refine (HWH.out _).mono ?_; rintro e w6 ⟨rfl, hw⟩; subst w6)
         | fail)
        all_goals
         go_ret2
         exact ⟨by rw [HF.out]; rfl, HB5.out⟩
      ·have h2 : ¬ K < -22 := by omega
       rcases hpt2 with rfl | ⟨rfl, he, he1⟩ <;>
       ·go_wp2_with (first
         | (go_at_call 48; refine (HSC.out _ HBI.out).mono ?_; rintro e w5 ⟨rfl, hb⟩; have HB5 := h_ (stp HBI.out hb); clear hb)
         | (go_at_call 135; refine (HWH.out _).mono ?_; rintro e w6 ⟨rfl, hw⟩; subst w6)
         | fail)
        all_goals
         go_ret2
         exact ⟨by rw [HF.out]; rfl, HB5.out⟩
     ·rw [if_neg hr] at hf
      have h2 : ¬ K < -22 := by omega
      have h3 : ¬ (22 : Int) < K := by omega
      have HMV := h_ (fun W => moveB_ok n (m := K) (by omega) W)
      have HF := h_ (show sgnF q _ = (fltB ⟨q, n, K⟩, true) from congrArg (sgnF q) hf)
      clear hf hr
      obtain ⟨F, hF⟩ := ex_ (moveB (floatOfInt .f64 n) K)
      rw [<- hF] at HMV
      have hfl : fltB ⟨q, n, K⟩ = if q = true ∧ n ≠ 0 then Op.negFloat .f64 F else F := by unfold fltB; rw [hF]
      have HFL := h_ hfl
      clear hfl hF
      cases q with
      | false =>
       rcases hpt2 with rfl | ⟨rfl, he, he1⟩ <;>
       ·go_wp2_with (first
         | (go_at_call 48; refine (HSC.out _ HBI.out).mono ?_; rintro e w5 ⟨rfl, hb⟩; have HB5 := h_ (stp HBI.out hb); clear hb)
         | (go_at_call 135; refine (HWH.out _).mono ?_; rintro e w6 ⟨rfl, hw⟩; subst w6)
         | (go_at_call 165; refine (HMV.out _).mono ?_; rintro e w6 ⟨rfl, hw⟩; subst w6)
         | fail)
        all_goals
         go_ret2
         exact ⟨by rw [HF.out, HFL.out, if_neg (by simp)]; rfl, HB5.out⟩
      | true =>
       by_cases hn : n = 0
       ·subst hn
        rcases hpt2 with rfl | ⟨rfl, he, he1⟩ <;>
        ·go_wp2_with (first
          | (go_at_call 48; refine (HSC.out _ HBI.out).mono ?_; rintro e w5 ⟨rfl, hb⟩; have HB5 := h_ (stp HBI.out hb); clear hb)
          | (go_at_call 135; refine (HWH.out _).mono ?_; rintro e w6 ⟨rfl, hw⟩; subst w6)
          | (go_at_call 165; refine (HMV.out _).mono ?_; rintro e w6 ⟨rfl, hw⟩; subst w6)
          | fail)
         all_goals
          go_ret2
          exact ⟨by rw [HF.out, HFL.out, if_neg (by simp)]; rfl, HB5.out⟩
       ·have hnb : (n != 0) = true := by simpa using hn
        have hng := fun (W : World) => neg_run (P := Tryz.prog) W F
        have HNN := h_ hn
        rcases hpt2 with rfl | ⟨rfl, he, he1⟩ <;>
        ·go_wp2_with (first
          | (go_at_call 48; refine (HSC.out _ HBI.out).mono ?_; rintro e w5 ⟨rfl, hb⟩; have HB5 := h_ (stp HBI.out hb); clear hb)
          | (go_at_call 135; refine (HWH.out _).mono ?_; rintro e w6 ⟨rfl, hw⟩; subst w6)
          | (go_at_call 165; refine (HMV.out _).mono ?_; rintro e w6 ⟨rfl, hw⟩; subst w6)
          | fail)
         all_goals
          go_ret2
          exact ⟨by rw [HF.out, HFL.out, if_pos (by simpa using HNN.out)]; rfl, HB5.out⟩

def cCells (wv : Value) (c : Cand) : Array Value := #[S c.url, wv, .bool c.hw, .int .i64 c.w, .bool c.hh, .int .i64 c.h, .bool c.hd, .float .f64 c.d]
theorem last_of {l : Bytes} (h : l ≠ []) : ∃ m x, l = m ++ [x] := ⟨l.dropLast, l.getLast h, (List.dropLast_concat_getLast h).symm⟩
theorem takeF_snoc (c : Cand) (m : Bytes) (x : UInt8) : takeF c (m ++ [x]) = if x = 119 then (match wholeF m with
   | none => none
   | some n => if n < 1 ∨ c.hw = true ∨ c.hd = true then none else some { c with hw := true, w := n })
  else if x = 104 then (match wholeF m with
   | none => none
   | some n => if n < 1 ∨ c.hh = true ∨ c.hd = true then none else some { c with hh := true, h := n })
  else if x = 120 then (match floF m with
   | none => none
   | some f => if geB (fltB f) = false ∨ c.hw = true ∨ c.hh = true ∨ c.hd = true then none else some { c with hd := true, d := fltB f })
  else none := by
 unfold takeF
 rw [List.getLast?_concat]
 dsimp only
 rw [List.dropLast_concat]
 rfl
theorem b2_is (x : UInt8) (k : Nat) (h : k < 256) : (b2 x = (k : Int)) ↔ x = UInt8.ofNat k := by
 constructor
 ·intro e
  have : x.toNat = k := by unfold b2 at e; omega
  rw [<- this, UInt8.ofNat_toNat]
 ·rintro rfl
  unfold b2
  rw [toNat_ofNat_lt h]
theorem run_store_f {P : Program} (W : World) (a : Addr) (b : Nat) (m : Mode) : (store a (.float .f64 b) m).run P W = stored P W a (.float .f64 b) m := run_store P W a _ m rfl
theorem take_any (g : Nat) (wv : Value) (c : Cand) (word : Bytes) (w : World) (hl : word.length <= 1024000000) (i : CB w g 59 (cCells wv c)) (hE : Env w) :
  Calls Tryz.prog 108 #[.pointer (some ⟨g, 0, none⟩), .string (bs word)] w fun e w' =>
   e = .returned (.bool (takeF c word).isSome) ∧ CB w' g 59 (cCells wv ((takeF c word).getD c)) ∧ Fk (fun j => j = g) w w' := by
 by_cases h0 : word = []
 ·subst h0
  have hI := h_ i
  obtain ⟨t, ht⟩ := ex_ (bs [])
  have he : t.toList = [] := by rw [ht, toList_bs]
  have he1 : t.toList.isEmpty = true := by rw [he]; rfl
  rw [<- ht]
  clear ht i hE hl
  go_enter Tryz.func108, Tryz.ntmps108
  go_wp2_with fail
  go_ret
  exact ⟨rfl, hI.out, Fk.refl _ _⟩
 obtain ⟨m, x, rfl⟩ := last_of h0
 obtain ⟨R, hR⟩ := ex_ (takeF c (m ++ [x]))
 rw [<- hR]
 rw [takeF_snoc] at hR
 obtain ⟨K, hK⟩ := ex_ (m.length)
 rw [List.length_append, List.length_singleton, <- hK] at hl
 obtain ⟨t, ht⟩ := ex_ (bs (m ++ [x]))
 have hsz : t.size = K + 1 := by rw [ht, bs_size, List.length_append, hK]; rfl
 have hku : K < t.size := by omega
 have hx : ((t[K]'hku).toNat : Int) = b2 x := by
  rw [str_at ht hku (by rw [List.length_append, <- hK]; simp)]
  simp [hK]
 have hex : t.extract 0 K = bs m := by rw [ht, ext_to, hK, List.take_left' rfl]
 have he : ¬ t.toList = [] := by rw [ht, toList_bs]; simp
 have he1 : t.toList.isEmpty = false := by simpa using he
 obtain ⟨u, hu⟩ := ex_ (bs m)
 rw [<- hu] at hex
 rw [<- ht]
 have HUM := h_ hu
 clear ht hu h0
 obtain ⟨N, hN⟩ := ex_ (t.size)
 have htN : t.size = N := hN.symm
 have hw1 : IntKind.i64.wrap ((N : Int) - 1) = (K : Int) := by rw [IntWalk.i64_in _ (by omega)]; omega
 have hKN : K <= N := by omega
 have hNm : N <= 1024000000 := by omega
 have hKm : m.length <= 1024000000 := by omega
 have k119 := b2_is x 119 (by omega)
 have k104 := b2_is x 104 (by omega)
 have k120 := b2_is x 120 (by omega)
 clear hsz hN hl hK
 have hI := h_ i
 have f2 := i.frz 2
 have f3 := i.frz 3
 have f4 := i.frz 4
 have f5 := i.frz 5
 have f6 := i.frz 6
 have f7 := i.frz 7
 have c2 := i.cell_is (j := 2) (v := .bool c.hw) rfl
 have c3 := i.cell_is (j := 3) (v := .int .i64 c.w) rfl
 have c4 := i.cell_is (j := 4) (v := .bool c.hh) rfl
 have c5 := i.cell_is (j := 5) (v := .int .i64 c.h) rfl
 have c6 := i.cell_is (j := 6) (v := .bool c.hd) rfl
 have c7 := i.cell_is (j := 7) (v := .float .f64 c.d) rfl
 clear i
 by_cases h119 : x = 119
 ·rw [if_pos h119] at hR
  have hX : b2 x = 119 := k119.mpr (by rw [h119]; rfl)
  rw [hX] at hx
  clear k119 k104 k120 hX h119
  have hwh := fun W => whole_any m W hKm
  rw [<- HUM.out] at hwh
  cases hW : wholeF m with
  | none =>
   rw [hW] at hR hwh
   have HWH := h_ (show ∀ W, Calls Tryz.prog 135 #[.string u] W fun e w' => e = .returned (.tuple #[.int .i64 0, .bool false]) ∧ w' = W from hwh)
   have HR := h_ (show R = none from hR)
   clear hR hwh hW hE
   go_enter Tryz.func108, Tryz.ntmps108
   go_wp2_with (first
     | (go_at_call 135; refine (HWH.out _).mono ?_; rintro e w6 ⟨rfl, hw⟩; subst w6)
     | fail)
   go_ret
   rw [HR.out]
   exact ⟨rfl, hI.out, Fk.refl _ _⟩
  | some n =>
   rw [hW] at hR hwh
   have HWH := h_ (show ∀ W, Calls Tryz.prog 135 #[.string u] W fun e w' => e = .returned (.tuple #[.int .i64 n, .bool true]) ∧ w' = W from hwh)
   replace hR : R = if n < 1 ∨ c.hw = true ∨ c.hd = true then none else some { c with hw := true, w := n } := hR
   clear hwh hW hE
   by_cases hn : n < 1
   ·have HR := h_ (show R = none by rw [hR, if_pos (.inl hn)])
    clear hR
    go_enter Tryz.func108, Tryz.ntmps108
    go_wp2_with (first
     | (go_at_call 135; refine (HWH.out _).mono ?_; rintro e w6 ⟨rfl, hw⟩; subst w6)
     | fail)
    go_ret
    rw [HR.out]
    exact ⟨rfl, hI.out, Fk.refl _ _⟩
   cases hfa : c.hw with
   | true =>
    rw [hfa] at c2
    have HR := h_ (show R = none by rw [hR, if_pos (.inr (.inl hfa))])
    clear hR hfa
    go_enter Tryz.func108, Tryz.ntmps108
    go_wp2_with (first
     | (go_at_call 135; refine (HWH.out _).mono ?_; rintro e w6 ⟨rfl, hw⟩; subst w6)
     | fail)
    go_ret
    rw [HR.out]
    exact ⟨rfl, hI.out, Fk.refl _ _⟩
   | false =>
    rw [hfa] at c2
    cases hfd : c.hd with
    | true =>
     rw [hfd] at c6
     have HR := h_ (show R = none by rw [hR, if_pos (.inr (.inr hfd))])
     clear hR hfa hfd
     go_enter Tryz.func108, Tryz.ntmps108
     go_wp2_with (first
     | (go_at_call 135; refine (HWH.out _).mono ?_; rintro e w6 ⟨rfl, hw⟩; subst w6)
     | fail)
     go_ret
     rw [HR.out]
     exact ⟨rfl, hI.out, Fk.refl _ _⟩
    | false =>
     rw [hfd] at c6
     have HR := h_ (show R = some { c with hw := true, w := n } by rw [hR, if_neg (by rw [hfa, hfd]; simpa using hn)])
     clear hR hfa hfd
     go_enter Tryz.func108, Tryz.ntmps108
     go_wp2_with (first
     | (go_at_call 135; refine (HWH.out _).mono ?_; rintro e w6 ⟨rfl, hw⟩; subst w6)
     | fail)
     go_ret
     rw [HR.out]
     exact ⟨rfl, (hI.out.set 2 (.bool true)).set 3 (.int .i64 n), (Fk.set (J := fun j => j = g) hI.out 2 _ rfl).trans (Fk.set (J := fun j => j = g) (hI.out.set 2 _) 3 _ rfl)⟩
 rw [if_neg h119] at hR
 have n119 : (b2 x == 119) = false := by
  rw [beq_eq_false_iff_ne]
  exact fun h => h119 (k119.mp h)
 by_cases h104 : x = 104
 ·rw [if_pos h104] at hR
  have hX : b2 x = 104 := k104.mpr (by rw [h104]; rfl)
  rw [hX] at hx
  clear k119 k104 k120 hX h119 h104 n119
  have hwh := fun W => whole_any m W hKm
  rw [<- HUM.out] at hwh
  cases hW : wholeF m with
  | none =>
   rw [hW] at hR hwh
   have HWH := h_ (show ∀ W, Calls Tryz.prog 135 #[.string u] W fun e w' => e = .returned (.tuple #[.int .i64 0, .bool false]) ∧ w' = W from hwh)
   have HR := h_ (show R = none from hR)
   clear hR hwh hW hE
   go_enter Tryz.func108, Tryz.ntmps108
   go_wp2_with (first
     | (go_at_call 135; refine (HWH.out _).mono ?_; rintro e w6 ⟨rfl, hw⟩; subst w6)
     | fail)
   go_ret
   rw [HR.out]
   exact ⟨rfl, hI.out, Fk.refl _ _⟩
  | some n =>
   rw [hW] at hR hwh
   have HWH := h_ (show ∀ W, Calls Tryz.prog 135 #[.string u] W fun e w' => e = .returned (.tuple #[.int .i64 n, .bool true]) ∧ w' = W from hwh)
   replace hR : R = if n < 1 ∨ c.hh = true ∨ c.hd = true then none else some { c with hh := true, h := n } := hR
   clear hwh hW hE
   by_cases hn : n < 1
   ·have HR := h_ (show R = none by rw [hR, if_pos (.inl hn)])
    clear hR
    go_enter Tryz.func108, Tryz.ntmps108
    go_wp2_with (first
     | (go_at_call 135; refine (HWH.out _).mono ?_; rintro e w6 ⟨rfl, hw⟩; subst w6)
     | fail)
    go_ret
    rw [HR.out]
    exact ⟨rfl, hI.out, Fk.refl _ _⟩
   cases hfa : c.hh with
   | true =>
    rw [hfa] at c4
    have HR := h_ (show R = none by rw [hR, if_pos (.inr (.inl hfa))])
    clear hR hfa
    go_enter Tryz.func108, Tryz.ntmps108
    go_wp2_with (first
     | (go_at_call 135; refine (HWH.out _).mono ?_; rintro e w6 ⟨rfl, hw⟩; subst w6)
     | fail)
    go_ret
    rw [HR.out]
    exact ⟨rfl, hI.out, Fk.refl _ _⟩
   | false =>
    rw [hfa] at c4
    cases hfd : c.hd with
    | true =>
     rw [hfd] at c6
     have HR := h_ (show R = none by rw [hR, if_pos (.inr (.inr hfd))])
     clear hR hfa hfd
     go_enter Tryz.func108, Tryz.ntmps108
     go_wp2_with (first
     | (go_at_call 135; refine (HWH.out _).mono ?_; rintro e w6 ⟨rfl, hw⟩; subst w6)
     | fail)
     go_ret
     rw [HR.out]
     exact ⟨rfl, hI.out, Fk.refl _ _⟩
    | false =>
     rw [hfd] at c6
     have HR := h_ (show R = some { c with hh := true, h := n } by rw [hR, if_neg (by rw [hfa, hfd]; simpa using hn)])
     clear hR hfa hfd
     go_enter Tryz.func108, Tryz.ntmps108
     go_wp2_with (first
     | (go_at_call 135; refine (HWH.out _).mono ?_; rintro e w6 ⟨rfl, hw⟩; subst w6)
     | fail)
     go_ret
     rw [HR.out]
     exact ⟨rfl, (hI.out.set 4 (.bool true)).set 5 (.int .i64 n), (Fk.set (J := fun j => j = g) hI.out 4 _ rfl).trans (Fk.set (J := fun j => j = g) (hI.out.set 4 _) 5 _ rfl)⟩
 rw [if_neg h104] at hR
 have n104 : (b2 x == 104) = false := by
  rw [beq_eq_false_iff_ne]
  exact fun h => h104 (k104.mp h)
 by_cases h120 : x = 120
 ·rw [if_pos h120] at hR
  have hX : b2 x = 120 := k120.mpr (by rw [h120]; rfl)
  rw [hX] at hx
  clear k119 k104 k120 hX h119 h104 h120 n119 n104
  have hfl := float_any m w hKm hE
  rw [<- HUM.out] at hfl
  clear hE
  cases hW : floF m with
  | none =>
   have hfe : floE m = (0, false) := by unfold floE; rw [hW]
   rw [hW] at hR
   rw [hfe] at hfl
   have HFL := h_ (show Calls Tryz.prog 136 #[.string u] w fun e w' => e = .returned (.tuple #[.float .f64 0, .bool false]) ∧ Below w.heap.size w w' from hfl)
   have HR := h_ (show R = none from hR)
   clear hR hfl hW hfe
   go_enter Tryz.func108, Tryz.ntmps108
   go_wp2_with (first
     | (go_at_call 136; refine (HFL.out).mono ?_; rintro e w6 ⟨rfl, hb⟩; have HB6 := h_ hb; have I6 := h_ (hI.out.keep hb); have d2 := I6.out.cell_is (j := 2) (v := .bool c.hw) rfl; have d4 := I6.out.cell_is (j := 4) (v := .bool c.hh) rfl; have d6 := I6.out.cell_is (j := 6) (v := .bool c.hd) rfl; have d7 := I6.out.cell_is (j := 7) (v := .float .f64 c.d) rfl; have g6 := I6.out.frz 6; have g7 := I6.out.frz 7; clear hb)
     | fail)
   go_ret
   rw [HR.out]
   exact ⟨rfl, I6.out, Fk.of_below HB6.out⟩
  | some f =>
   have hfe : floE m = (fltB f, true) := by unfold floE; rw [hW]
   rw [hW] at hR
   rw [hfe] at hfl
   obtain ⟨B, hB⟩ := ex_ (fltB f)
   replace hR : R = if geB (fltB f) = false ∨ c.hw = true ∨ c.hh = true ∨ c.hd = true then none else some { c with hd := true, d := fltB f } := hR
   rw [<- hB] at hfl hR
   have HFL := h_ (show Calls Tryz.prog 136 #[.string u] w fun e w' => e = .returned (.tuple #[.float .f64 B, .bool true]) ∧ Below w.heap.size w w' from hfl)
   clear hfl hW hfe hB
   cases hge : geB B with
   | false =>
    have HR := h_ (show R = none by rw [hR, if_pos (.inl hge)])
    have hge2 : (FloatKind.f64.format.order B 0 == some .gt || FloatKind.f64.format.order B 0 == some .eq) = false := hge
    clear hR hge
    go_enter Tryz.func108, Tryz.ntmps108
    go_wp2_with (first
     | (go_at_call 136; refine (HFL.out).mono ?_; rintro e w6 ⟨rfl, hb⟩; have HB6 := h_ hb; have I6 := h_ (hI.out.keep hb); have d2 := I6.out.cell_is (j := 2) (v := .bool c.hw) rfl; have d4 := I6.out.cell_is (j := 4) (v := .bool c.hh) rfl; have d6 := I6.out.cell_is (j := 6) (v := .bool c.hd) rfl; have d7 := I6.out.cell_is (j := 7) (v := .float .f64 c.d) rfl; have g6 := I6.out.frz 6; have g7 := I6.out.frz 7; clear hb)
     | fail)
    go_ret
    rw [HR.out]
    exact ⟨rfl, I6.out, Fk.of_below HB6.out⟩
   | true =>
    have hge2 : (FloatKind.f64.format.order B 0 == some .gt || FloatKind.f64.format.order B 0 == some .eq) = true := hge
    cases hhw : c.hw with
    | true =>
     have HR := h_ (show R = none by rw [hR, if_pos (.inr (.inl hhw))])
     have hge3 := hge2
     clear hR hge
     go_enter Tryz.func108, Tryz.ntmps108
     go_wp2_with (first
     | (go_at_call 136; refine (HFL.out).mono ?_; rintro e w6 ⟨rfl, hb⟩; have HB6 := h_ hb; have I6 := h_ (hI.out.keep hb); have d2 := I6.out.cell_is (j := 2) (v := .bool c.hw) rfl; have d4 := I6.out.cell_is (j := 4) (v := .bool c.hh) rfl; have d6 := I6.out.cell_is (j := 6) (v := .bool c.hd) rfl; have d7 := I6.out.cell_is (j := 7) (v := .float .f64 c.d) rfl; have g6 := I6.out.frz 6; have g7 := I6.out.frz 7; clear hb; rw [hhw] at d2)
     | fail)
     go_ret
     rw [HR.out]
     exact ⟨rfl, I6.out, Fk.of_below HB6.out⟩
    | false =>
     cases hhh : c.hh with
     | true =>
      have HR := h_ (show R = none by rw [hR, if_pos (.inr (.inr (.inl hhh)))])
      have hge3 := hge2
      clear hR hge
      go_enter Tryz.func108, Tryz.ntmps108
      go_wp2_with (first
     | (go_at_call 136; refine (HFL.out).mono ?_; rintro e w6 ⟨rfl, hb⟩; have HB6 := h_ hb; have I6 := h_ (hI.out.keep hb); have d2 := I6.out.cell_is (j := 2) (v := .bool c.hw) rfl; have d4 := I6.out.cell_is (j := 4) (v := .bool c.hh) rfl; have d6 := I6.out.cell_is (j := 6) (v := .bool c.hd) rfl; have d7 := I6.out.cell_is (j := 7) (v := .float .f64 c.d) rfl; have g6 := I6.out.frz 6; have g7 := I6.out.frz 7; clear hb; rw [hhw] at d2; rw [hhh] at d4)
     | fail)
      go_ret
      rw [HR.out]
      exact ⟨rfl, I6.out, Fk.of_below HB6.out⟩
     | false =>
      cases hhd : c.hd with
      | true =>
       have HR := h_ (show R = none by rw [hR, if_pos (.inr (.inr (.inr hhd)))])
       have hge3 := hge2
       clear hR hge
       go_enter Tryz.func108, Tryz.ntmps108
       go_wp2_with (first
     | (go_at_call 136; refine (HFL.out).mono ?_; rintro e w6 ⟨rfl, hb⟩; have HB6 := h_ hb; have I6 := h_ (hI.out.keep hb); have d2 := I6.out.cell_is (j := 2) (v := .bool c.hw) rfl; have d4 := I6.out.cell_is (j := 4) (v := .bool c.hh) rfl; have d6 := I6.out.cell_is (j := 6) (v := .bool c.hd) rfl; have d7 := I6.out.cell_is (j := 7) (v := .float .f64 c.d) rfl; have g6 := I6.out.frz 6; have g7 := I6.out.frz 7; clear hb; rw [hhw] at d2; rw [hhh] at d4; rw [hhd] at d6)
     | fail)
       go_ret
       rw [HR.out]
       exact ⟨rfl, I6.out, Fk.of_below HB6.out⟩
      | false =>
       have hsf := fun (W : World) (a : Addr) (m : Mode) => run_store_f (P := Tryz.prog) W a B m
       have HR := h_ (show R = some { c with hd := true, d := B } by rw [hR, if_neg (by rw [hge, hhw, hhh, hhd]; simp)])
       clear hR hge
       go_enter Tryz.func108, Tryz.ntmps108
       go_wp2_with (first
     | (go_at_call 136; refine (HFL.out).mono ?_; rintro e w6 ⟨rfl, hb⟩; have HB6 := h_ hb; have I6 := h_ (hI.out.keep hb); have d2 := I6.out.cell_is (j := 2) (v := .bool c.hw) rfl; have d4 := I6.out.cell_is (j := 4) (v := .bool c.hh) rfl; have d6 := I6.out.cell_is (j := 6) (v := .bool c.hd) rfl; have d7 := I6.out.cell_is (j := 7) (v := .float .f64 c.d) rfl; have g6 := I6.out.frz 6; have g7 := I6.out.frz 7; clear hb; rw [hhw] at d2; rw [hhh] at d4; rw [hhd] at d6)
     | fail)
       go_ret
       rw [HR.out]
       exact ⟨rfl, (I6.out.set 6 (.bool true)).set 7 (.float .f64 B), (Fk.of_below HB6.out).trans ((Fk.set (J := fun j => j = g) I6.out 6 _ rfl).trans (Fk.set (J := fun j => j = g) (I6.out.set 6 _) 7 _ rfl))⟩
 rw [if_neg h120] at hR
 have n120 : (b2 x == 120) = false := by
  rw [beq_eq_false_iff_ne]
  exact fun h => h120 (k120.mp h)
 have HR := h_ hR
 generalize b2 x = X at hx n119 n104 n120
 clear hR k119 k104 k120 h119 h104 h120 hE
 go_enter Tryz.func108, Tryz.ntmps108
 go_wp2_with fail
 go_ret
 rw [HR.out]
 exact ⟨rfl, hI.out, Fk.refl _ _⟩

theorem c_size (wv : Value) (c : Cand) : (cCells wv c).size = 8 := rfl
theorem c_info : (Tryz.prog.info? 59).map (·.size) = some 8 := by kernel_rfl
theorem c_one {wv : Value} {c : Cand} (h : wv.oneCell' = true) : ∀ v ∈ (cCells wv c).toList, v.oneCell' = true := by
 intro v hv
 simp only [cCells, List.mem_cons, List.not_mem_nil, or_false] at hv
 rcases hv with rfl | rfl | rfl | rfl | rfl | rfl | rfl | rfl
 all_goals first | rfl | exact h
theorem allC (w : World) : (Instr.alloc 59 true (Value.tuple #[])).run Tryz.prog w = .ok (.pointer (some ⟨w.heap.size, 0, none⟩)) (w.alloc (.cells (cCells nilV C0) 59)) := by kernel_rfl
theorem bldC0 (w : World) : (Instr.build 59 #[]).run Tryz.prog w = .ok (.agg (cCells nilV C0)) w := by kernel_rfl
theorem cd_res {f : Func} {k m : Nat} (hf : f.results = #[.cell k 59, .tmp m]) {tmps : Array Value} {w2 : World} {b : Nat} {wv : Value} {c : Cand} {q : Bool} {Post : Ending -> World -> Prop}
  (hk : tmps.getD k undef = .pointer (some ⟨b, 0, none⟩)) (hm : tmps.getD m undef = .bool q) (i : CB w2 b 59 (cCells wv c)) (hP : Post (.returned (.tuple #[.agg (cCells wv c), .bool q])) w2) :
  bodyPost Tryz.prog f Post Exit.ret { tmps := tmps, defers := [] } w2 := by
 have h2' : tmps[k]?.getD undef = .pointer (some ⟨b, 0, none⟩) := by simpa using hk
 have h3' : tmps[m]?.getD undef = .bool q := by simpa using hm
 have hl := i.load (P := Tryz.prog) 59 _ Tryz.underlying59 rfl c_info
 refine bodyPost_ret (v := .tuple #[.agg (cCells wv c), .bool q]) ?_ rfl hP
 simp [results, hf, asAddr, h2', h3', hl]
theorem c_whole (p0 wv : Value) (c0 c : Cand) : putC (cCells p0 c0) 0 (cCells wv c).toList = cCells wv c := putC_whole [S c0.url, p0, .bool c0.hw, .int .i64 c0.w, .bool c0.hh, .int .i64 c0.h, .bool c0.hd, .float .f64 c0.d] [S c.url, wv, .bool c.hw, .int .i64 c.w, .bool c.hh, .int .i64 c.h, .bool c.hd, .float .f64 c.d] (by simp)
theorem c_len (wv : Value) (c : Cand) : (cCells wv c).toList.length = 8 := rfl
section
variable {ops : Array Oper} {rest : List Oper} {o : Oper} {a : Act} {w : World} {Q : Exit -> Act -> World -> Prop}
theorem putCd (hgd : o.guard = none) (x y : Operand) (ho : o.op = .store 59 x y) (w0 : World) (b : Nat) {p0 : Value} {c0 : Cand} (i : OB w0 b 59 (cCells p0 c0) w) (wv : Value) (c : Cand) (h1 : wv.oneCell' = true)
  (hx : a.eval x = .pointer (some ⟨b, 0, none⟩)) (hy : a.eval y = .agg (cCells wv c))
  (K : ∀ w', OB w0 b 59 (cCells wv c) w' -> Tn b w w' -> wpList Tryz.prog ops Q rest (a.put o.dst undef) w') : wpList Tryz.prog ops Q (o :: rest) a w :=
 putNt hgd _ x y ho w0 b 59 (cCells p0 c0) i 0 (cCells wv c).toList hx hy (by rw [c_len, c_size]; omega) (by rw [c_len]; exact c_info) (c_one h1) (cCells wv c) (c_whole p0 wv c0 c) K
theorem loadCd (hgd : Region.wanted o (yielded ops a.tmps) = true) (x : Operand) (ho : o.op = .load 59 x) (b : Nat) (wv : Value) (c : Cand) (i : CB w b 59 (cCells wv c)) (hx : a.eval x = .pointer (some ⟨b, 0, none⟩))
  (K : wpList Tryz.prog ops Q rest (a.put o.dst (.agg (cCells wv c))) w) : wpList Tryz.prog ops Q (o :: rest) a w :=
 loadC hgd _ x ho b (cCells wv c) _ Tryz.underlying59 rfl c_info hx i K
end
theorem Fk.below_of {B g : Nat} {w w' : World} (h : Fk (fun j => j = g) w w') (hB : B <= g) (hw : B <= w.heap.size) : Below B w w' :=
 ⟨h.os, h.tape, h.output, h.s, fun j hj => h.k j (Nat.lt_of_lt_of_le hj hw) (fun e => by omega)⟩
theorem Fk.tn {g : Nat} {w w' : World} (h : Tn g w w') (h1 : w'.os = w.os) (h2 : w'.tape = w.tape) (h3 : w'.output = w.output) : Fk (fun j => j = g) w w' := ⟨h1, h2, h3, h.s, fun j hj hn => h.k j hj hn⟩
def DescP (w : World) : Option Cand -> Ending -> World -> Prop
 | none, e, w' => e = .returned (.tuple #[.agg (cCells nilV C0), .bool false]) ∧ Below w.heap.size w w'
 | some c, e, w' => ∃ wv, e = .returned (.tuple #[.agg (cCells wv c), .bool true]) ∧ w'.ownsRow w.heap.size 9 1 wv c.words.length (Strs c.words) ∧ Below w.heap.size w w'
theorem takeL_at {ws : List Bytes} {k : Nat} (c : Cand) (h : k < ws.length) : takeL c (ws.drop k) = match takeF c ws[k] with
  | none => none
  | some c' => takeL c' (ws.drop (k + 1)) := by
 rw [List.drop_eq_getElem_cons h]
 rfl
def descR (ws : List Bytes) : Option Cand -> Option Cand
 | none => none
 | some c => if c.hh = true ∧ c.hw = false then none else some { c with words := ws }
theorem desc_R (ws : List Bytes) : descF ws = descR ws (takeL C0 ws) := by
 unfold descF descR
 cases takeL C0 ws <;> rfl
theorem describe_any (ws : List Bytes) (v : Value) (w : World) (h : Sl w.heap.size w v (ws.map S)) (hn : ws.length <= 1024000000) (hx : ∀ x ∈ ws, x.length <= 1024000000) (hE : Env w) :
  Calls Tryz.prog 69 #[v] w (DescP w (descF ws)) := by
 obtain ⟨R, hR⟩ := ex_ (takeL C0 ws)
 have hd : descF ws = descR ws R := by rw [hR]; exact desc_R ws
 obtain ⟨P, hP⟩ := ex_ (descF ws)
 rw [<- hP] at hd ⊢
 have HR := h_ hR
 have HD := h_ hd
 have HS := h_ h
 have HX := h_ hx
 have HE := h_ hE
 have HCL := h_ (fun W (hb : Below w.heap.size w W) => clone_any ws v W ((h.below hb).more hb.size) hn)
 obtain ⟨av, cv, hv⟩ := slice_val h
 subst hv
 obtain ⟨n, hnn⟩ := ex_ (ws.length)
 have HNN := h_ hnn
 rw [List.length_map, <- hnn]
 rw [List.length_map, <- hnn] at HS HCL
 rw [<- hnn] at hn
 clear hR hd hx hE h hP hnn
 go_enter Tryz.func69, Tryz.ntmps69
 go_upto_region 1 with (first
  | (refine alloc_to rfl 59 rfl _ _ (allC _) ?_)
  | fail)
 have G0 := h_ (CB.new w 59 (cCells nilV C0))
 have B0 := h_ ((Below.refl w.heap.size w).alloc (Nat.le_refl _) (.cells (cCells nilV C0) 59))
 obtain ⟨w1, hw1⟩ := ex_ (w.alloc (.cells (cCells nilV C0) 59))
 rw [<- hw1] at G0 B0 ⊢
 clear hw1
 go_upto_region 2 with (first
  | (refine alloc_to rfl 59 rfl _ _ (allC _) ?_)
  | fail)
 have G1 := h_ (CB.new w1 59 (cCells nilV C0))
 have B1 := h_ ((Below.refl w1.heap.size w1).alloc (Nat.le_refl _) (.cells (cCells nilV C0) 59))
 obtain ⟨g, hg⟩ := ex_ (w1.heap.size)
 rw [<- hg] at G1 ⊢
 obtain ⟨w2, hw2⟩ := ex_ (w1.alloc (.cells (cCells nilV C0) 59))
 rw [<- hw2] at G1 B1 ⊢
 clear hw2
 obtain ⟨g0, hg0⟩ := ex_ (w.heap.size)
 rw [<- hg0] at G0 ⊢
 have G02 := h_ (G0.out.keep B1.out)
 have NE0 := h_ (show g0 ≠ g ∧ w.heap.size <= g0 ∧ w.heap.size <= g ∧ w.heap.size = g0 from by
  have := G0.out.lt
  have := B0.out.size
  omega)
 have B2 := h_ (B0.out.trans (B1.out.mono (by have := B0.out.size; exact this)))
 clear hg hg0 G0 B0 B1
 go_wp2_with fail
 go_loopw [9] (fun iv wr => ∃ (k : Nat) (c : Cand), k <= n ∧ iv = .int .i64 k ∧ Hid (takeL c (ws.drop k) = R) ∧ Hid (CB wr g 59 (cCells nilV c)) ∧ Hid (CB wr g0 59 (cCells nilV C0)) ∧ Hid (Below w.heap.size w wr)) (fun i _ => n - (intOf i).toNat)
 case atStart => exact ⟨0, C0, by omega, by simp, HR.out.symm, G1.out, G02.out, B2.out⟩
 case round =>
  clear G1 G02 B2
  obtain ⟨k, c, hk, rfl, HT, G1, G0, HB⟩ := hrel
  by_cases hlt : k < n
  ·have hkl : k < ws.length := by rw [<- HNN.out]; exact hlt
   obtain ⟨b, o, hva, hb, hcell⟩ := strs_at (HS.out.below HB.out) k hkl
   have hst := takeL_at c hkl
   rw [HT.out] at hst
   have hxl := HX.out ws[k] (List.getElem_mem hkl)
   have htk := take_any g nilV c ws[k] wr hxl G1.out (HE.out.below HB.out)
   subst hva
   generalize ws[k] = x at hcell hst htk
   obtain ⟨t, ht⟩ := ex_ (bs x)
   have hcell2 : wr.cell? ⟨b, o + k, none⟩ = some (.string t) := by rw [ht]; exact hcell
   rw [<- ht] at htk
   clear hcell ht hxl
   cases hq : takeF c x with
   | none =>
    rw [hq] at htk hst
    have HTK := h_ (show Calls Tryz.prog 108 #[.pointer (some ⟨g, 0, none⟩), .string t] wr fun e w' => e = .returned (.bool false) ∧ CB w' g 59 (cCells nilV c) ∧ Fk (fun j => j = g) wr w' from htk)
    have HF := h_ (show P = none by rw [HD.out, hst]; rfl)
    clear htk hst hq
    go_wp2_with (first
     | (go_at_call 108; refine HTK.out.mono ?_; rintro e w5 ⟨rfl, _, hf⟩; have I0 := h_ (OB.of (w0 := w) (hf.cb G0.out NE0.out.1) NE0.out.2.1 (HB.out.trans (hf.below_of NE0.out.2.2.1 HB.out.size))); clear hf)
     | (refine build_to rfl 59 _ rfl (.agg (cCells nilV C0)) #[] (by rfl) (fun w => bldC0 w) ?_)
     | (refine putCd rfl (.tmp 2) (.tmp 16) rfl w g0 I0.out nilV C0 rfl rfl rfl ?_; intro w6 i6 _; have I6 := h_ i6; clear i6)
     | fail)
    rw [HF.out]
    exact cd_res Tryz.results69 rfl rfl ⟨I6.out.a⟩ ⟨rfl, I6.out.bel⟩
   | some c' =>
    rw [hq] at htk hst
    have HTK := h_ (show Calls Tryz.prog 108 #[.pointer (some ⟨g, 0, none⟩), .string t] wr fun e w' => e = .returned (.bool true) ∧ CB w' g 59 (cCells nilV c') ∧ Fk (fun j => j = g) wr w' from htk)
    have HT2 := h_ (show takeL c' (ws.drop (k + 1)) = R from hst.symm)
    clear htk hst hq
    go_wp2_with (first
     | (go_at_call 108; refine HTK.out.mono ?_; rintro e w5 ⟨rfl, hc, hf⟩; have I1 := h_ hc; have I0 := h_ (hf.cb G0.out NE0.out.1); have HB5 := h_ (HB.out.trans (hf.below_of NE0.out.2.2.1 HB.out.size)); clear hf hc)
     | fail)
    go_roundw
    case rel => exact ⟨k + 1, c', by omega, by simp, HT2.out, I1.out, I0.out, HB5.out⟩
    case measure => simp [intOf]; omega
  ·obtain rfl : k = n := by omega
   have hRc : R = some c := by
    have := HT.out
    rw [List.drop_eq_nil_of_le (by rw [HNN.out]; exact Nat.le_refl _)] at this
    exact this.symm
   have c4 := G1.out.cell_is (j := 4) (v := .bool c.hh) rfl
   have c2 := G1.out.cell_is (j := 2) (v := .bool c.hw) rfl
   by_cases hz : c.hh = true ∧ c.hw = false
   ·have HF := h_ (show P = none by rw [HD.out, hRc]; exact if_pos hz)
    rw [hz.1] at c4
    rw [hz.2] at c2
    have I0 := h_ (OB.of (w0 := w) G0.out NE0.out.2.1 HB.out)
    clear hRc hz
    go_wp2_with (first
     | (refine build_to rfl 59 _ rfl (.agg (cCells nilV C0)) #[] (by rfl) (fun w => bldC0 w) ?_)
     | (refine putCd rfl (.tmp 2) (.tmp 25) rfl w g0 I0.out nilV C0 rfl rfl rfl ?_; intro w6 i6 _; have I6 := h_ i6; clear i6)
     | fail)
    rw [HF.out]
    exact cd_res Tryz.results69 rfl rfl ⟨I6.out.a⟩ ⟨rfl, I6.out.bel⟩
   ·have HF := h_ (show P = some { c with words := ws } by rw [HD.out, hRc]; exact if_neg hz)
    have hcs : c.hh = false ∨ (c.hh = true ∧ c.hw = true) := by
     cases h1 : c.hh with
     | false => exact .inl rfl
     | true =>
      cases h2 : c.hw with
      | true => exact .inr ⟨rfl, rfl⟩
      | false => exact absurd ⟨h1, h2⟩ hz
    have HC2 := h_ (HCL.out wr HB.out)
    clear hRc hz HCL
    rcases hcs with h1 | ⟨h1, h2⟩
    ·rw [h1] at c4
     clear h1 c2
     go_wp2_with (first
      | (go_at_call 60; refine HC2.out.mono ?_; rintro e w5 ⟨wv, rfl, ho, hb⟩; have HO := h_ ho; have HB5 := h_ (stp HB.out hb); have I1 := h_ (OB.of (w0 := w) (G1.out.keep hb) NE0.out.2.2.1 HB5.out); have I0 := h_ (G0.out.keep hb); have LT := h_ HB.out.size; clear hb ho)
      | (refine put1t rfl 28 (.tmp 28) (.tmp 27) rfl w g 59 (cCells nilV c) I1.out 1 wv rfl rfl (by exact Nat.lt_of_lt_of_le (by omega) (Nat.le_refl 8)) (by kernel_rfl) (own_one HO.out) (cCells wv { c with words := ws }) rfl ?_; intro w6 i6 t6; have I6 := h_ i6; have J0 := h_ (OB.of (w0 := w) (t6.cb I0.out NE0.out.1) NE0.out.2.1 i6.bel); have O6 := h_ t6; clear i6 t6)
      | (refine loadCd (by rfl) (.tmp 4) rfl g wv { c with words := ws } ⟨I6.out.a⟩ rfl ?_)
      | (refine putCd rfl (.tmp 2) (.tmp 29) rfl w g0 J0.out wv { c with words := ws } (own_one HO.out) rfl rfl ?_; intro w7 i7 t7; have I7 := h_ i7; have T7 := h_ t7; clear i7 t7)
      | fail)
     rw [HF.out]
     have ho := HO.out
     rw [List.length_map] at ho
     exact cd_res Tryz.results69 rfl rfl ⟨I7.out.a⟩ ⟨wv, rfl, own_base (T7.out.row (O6.out.row ho G1.out.lt) G0.out.lt) HB.out.size, I7.out.bel⟩
    ·rw [h1] at c4
     rw [h2] at c2
     clear h1 h2
     go_wp2_with (first
      | (go_at_call 60; refine HC2.out.mono ?_; rintro e w5 ⟨wv, rfl, ho, hb⟩; have HO := h_ ho; have HB5 := h_ (stp HB.out hb); have I1 := h_ (OB.of (w0 := w) (G1.out.keep hb) NE0.out.2.2.1 HB5.out); have I0 := h_ (G0.out.keep hb); have LT := h_ HB.out.size; clear hb ho)
      | (refine put1t rfl 28 (.tmp 28) (.tmp 27) rfl w g 59 (cCells nilV c) I1.out 1 wv rfl rfl (by exact Nat.lt_of_lt_of_le (by omega) (Nat.le_refl 8)) (by kernel_rfl) (own_one HO.out) (cCells wv { c with words := ws }) rfl ?_; intro w6 i6 t6; have I6 := h_ i6; have J0 := h_ (OB.of (w0 := w) (t6.cb I0.out NE0.out.1) NE0.out.2.1 i6.bel); have O6 := h_ t6; clear i6 t6)
      | (refine loadCd (by rfl) (.tmp 4) rfl g wv { c with words := ws } ⟨I6.out.a⟩ rfl ?_)
      | (refine putCd rfl (.tmp 2) (.tmp 29) rfl w g0 J0.out wv { c with words := ws } (own_one HO.out) rfl rfl ?_; intro w7 i7 t7; have I7 := h_ i7; have T7 := h_ t7; clear i7 t7)
      | fail)
     rw [HF.out]
     have ho := HO.out
     rw [List.length_map] at ho
     exact cd_res Tryz.results69 rfl rfl ⟨I7.out.a⟩ ⟨wv, rfl, own_base (T7.out.row (O6.out.row ho G1.out.lt) G0.out.lt) HB.out.size, I7.out.bel⟩

theorem askN_tw (q : UInt8 -> Bool) : ∀ (l : Bytes) (s : Bool), askN (fun _ c => q c) (fun s _ => s) s l = (l.takeWhile q).length
 | [], _ => rfl
 | c :: r, s => by
  rw [askN]
  cases h : q c with
  | true => rw [if_pos rfl, askN_tw q r s, List.takeWhile_cons_of_pos h, List.length_cons]
  | false => rw [if_neg (by simp), List.takeWhile_cons_of_neg (by rw [h]; simp)]; rfl
def wpF (s : Bool) (c : UInt8) : Bool := s || (decide (c = 40) || !(cblF c))
def wnF (s : Bool) (c : UInt8) : Bool := if s = true then decide (c ≠ 41) else decide (c = 40)
theorem askN_word : ∀ (l : Bytes) (s : Bool), askN wpF wnF s l = wordN s l
 | [], s => by cases s <;> rfl
 | c :: r, true => by
  rw [askN, wordN, if_pos (by simp [wpF]), askN_word r]
  simp [wnF]
 | c :: r, false => by
  rw [askN, wordN]
  by_cases h : c = 40
  ·rw [if_pos h, if_pos (by simp [wpF, h]), askN_word r]
   simp [wnF, h]
  ·rw [if_neg h]
   cases hc : cblF c with
   | true => rw [if_neg (by simp [wpF, h, hc]), if_pos rfl]
   | false => rw [if_pos (by simp [wpF, h, hc]), if_neg (by simp), askN_word r]; simp [wnF, h]
theorem b2_eq (c : UInt8) (k : Nat) (h : k < 256) : (b2 c == (k : Int)) = decide (c = UInt8.ofNat k) := by
 by_cases e : c = UInt8.ofNat k
 ·rw [decide_eq_true e, (b2_is c k h).mpr e]; simp
 ·rw [decide_eq_false e, beq_eq_false_iff_ne]
  exact fun h2 => e ((b2_is c k h).mp h2)
theorem ask_blank : AskOk 64 #[] none (fun _ c => blE c) (fun s _ => s) :=
 ⟨fun _ _ => rfl, fun _ c W hi => (blank_any (b2 c) W).mono fun _ _ h => ⟨h.1, h.2 ▸ hi, h.2 ▸ Fk.refl _ _⟩⟩
theorem s2_any (c : UInt8) (w : World) : Calls Tryz.prog 63 #[.int .u8 (b2 c)] w fun e w' => e = .returned (.bool (cblF c)) ∧ w' = w := by
 have hb := fun W => blank_any (b2 c) W
 have h44 : (b2 c == 44) = decide (c = 44) := b2_eq c 44 (by omega)
 have hR : cblF c = (decide (c = 44) || blkF (b2 c)) := rfl
 rw [hR]
 have HB := h_ hb
 generalize b2 c = X at *
 generalize decide (c = 44) = q at *
 generalize blkF X = r at *
 clear hb hR
 cases q <;>
 ·go_enter Tryz.func63, Tryz.ntmps63
  go_wp2_with (first | (go_at_call 64; refine (HB.out _).mono ?_; rintro e w2 ⟨rfl, hw⟩; subst w2) | fail)
  go_ret
  exact ⟨by simp, rfl⟩
theorem s3_any (c : UInt8) (w : World) : Calls Tryz.prog 65 #[.int .u8 (b2 c)] w fun e w' => e = .returned (.bool (nblF c)) ∧ w' = w := by
 have hb := fun W => blank_any (b2 c) W
 have hR : nblF c = !(blkF (b2 c)) := rfl
 rw [hR]
 have HB := h_ hb
 generalize b2 c = X at *
 generalize blkF X = r at *
 clear hb hR
 go_enter Tryz.func65, Tryz.ntmps65
 go_wp2_with (first | (go_at_call 64; refine (HB.out _).mono ?_; rintro e w2 ⟨rfl, hw⟩; subst w2) | fail)
 go_ret
 exact ⟨rfl, rfl⟩
theorem ask_s2 : AskOk 63 #[] none (fun _ c => cblF c) (fun s _ => s) :=
 ⟨fun _ _ => rfl, fun _ c W hi => (s2_any c W).mono fun _ _ h => ⟨h.1, h.2 ▸ hi, h.2 ▸ Fk.refl _ _⟩⟩
theorem ask_s3 : AskOk 65 #[] none (fun _ c => nblF c) (fun s _ => s) :=
 ⟨fun _ _ => rfl, fun _ c W hi => (s3_any c W).mono fun _ _ h => ⟨h.1, h.2 ▸ hi, h.2 ▸ Fk.refl _ _⟩⟩
theorem d1_any (f : Nat) (s : Bool) (c : UInt8) (w : World) (i : CB w f 4 #[.bool s]) : Calls Tryz.prog 107 #[.int .u8 (b2 c), .pointer (some ⟨f, 0, none⟩)] w fun e w' =>
  e = .returned (.bool (wpF s c)) ∧ CB w' f 4 #[.bool (wnF s c)] ∧ Fk (fun j => j = f) w w' := by
 have HB := h_ (fun W => blank_any (b2 c) W)
 have h44 : (b2 c == 44) = decide (c = 44) := b2_eq c 44 (by omega)
 have h41 : (b2 c == 41) = decide (c = 41) := b2_eq c 41 (by omega)
 have h40 : (b2 c == 40) = decide (c = 40) := b2_eq c 40 (by omega)
 have hR : cblF c = (decide (c = 44) || blkF (b2 c)) := rfl
 have HI := h_ i
 have c1 := i.cell_is (j := 0) (v := .bool s) rfl
 have f1 := i.frz 0
 clear i
 cases s with
 | true =>
  have hn : (b2 c != 41) = wnF true c := by
   unfold bne
   rw [h41]
   simp [wnF]
  obtain ⟨q, hq⟩ := ex_ (wnF true c)
  rw [<- hq] at hn ⊢
  clear h44 h41 h40 hR hq HB
  have hwp : wpF true c = true := rfl
  rw [hwp]
  generalize b2 c = X at *
  clear hwp
  go_enter Tryz.func107, Tryz.ntmps107
  go_wp2_with fail
  go_ret
  exact ⟨rfl, HI.out.set 0 (.bool q), Fk.set (J := fun j => j = f) HI.out 0 _ rfl⟩
 | false =>
  by_cases e40 : c = 40
  ·rw [decide_eq_true e40] at h40
   have hwp : wpF false c = true := by unfold wpF; rw [decide_eq_true e40]; rfl
   have hwn : wnF false c = true := by unfold wnF; rw [if_neg (by simp), decide_eq_true e40]
   rw [hwp, hwn]
   generalize b2 c = X at *
   clear h44 h41 hR hwp hwn e40 HB
   go_enter Tryz.func107, Tryz.ntmps107
   go_wp2_with fail
   go_ret
   exact ⟨rfl, HI.out.set 0 (.bool true), Fk.set (J := fun j => j = f) HI.out 0 _ rfl⟩
  ·rw [decide_eq_false e40] at h40
   have hwp : wpF false c = !(cblF c) := by unfold wpF; rw [decide_eq_false e40]; rfl
   have hwn : wnF false c = false := by unfold wnF; rw [if_neg (by simp), decide_eq_false e40]
   rw [hwp, hwn, hR]
   generalize b2 c = X at *
   generalize decide (c = 44) = q at *
   generalize blkF X = r at *
   clear h41 hR hwp hwn e40
   cases q with
   | true =>
    go_enter Tryz.func107, Tryz.ntmps107
    go_wp2_with (first | (go_at_call 64; refine (HB.out _).mono ?_; rintro e w2 ⟨rfl, hw⟩; subst w2) | fail)
    go_ret
    exact ⟨rfl, HI.out, Fk.refl _ _⟩
   | false =>
    cases r <;>
    ·go_enter Tryz.func107, Tryz.ntmps107
     go_wp2_with (first | (go_at_call 64; refine (HB.out _).mono ?_; rintro e w2 ⟨rfl, hw⟩; subst w2) | fail)
     go_ret
     exact ⟨rfl, HI.out, Fk.refl _ _⟩
theorem ask_d1 (f : Nat) : AskOk 107 #[.pointer (some ⟨f, 0, none⟩)] (some f) wpF wnF :=
 ⟨fun _ _ => rfl, fun s c W hi => (d1_any f s c W (hi f rfl)).mono fun _ _ h => ⟨h.1, fun b hb => by obtain rfl : f = b := Option.some.inj hb; exact h.2.1, h.2.2.more fun j hj => by subst hj; rfl⟩⟩
theorem Fk.row {J : Nat -> Prop} {w w' : World} (h : Fk J w w') {base e n : Nat} {v : Value} {xs : List Value} (i : w.ownsRow base e 1 v n xs) (hn : ∀ g, base <= g -> g < w.heap.size -> v.ownBlock = some g -> ¬ J g) : w'.ownsRow base e 1 v n xs := by
 refine ⟨i.1, ?_⟩
 rcases i.2 with h0 | ⟨g, cap, cur, e1, hg, hh, hr⟩
 ·exact .inl h0
 ·have hlt := (Array.getElem?_eq_some_iff.1 hh).1
  exact .inr ⟨g, cap, cur, e1, hg, (h.k g hlt (hn g hg hlt (by rw [e1]; rfl))).trans hh, hr⟩

theorem Fk.step {J K : Nat -> Prop} {w w1 w2 : World} (h : Fk J w w1) (k : Fk K w1 w2) (hk : ∀ j, j < w.heap.size -> K j -> J j) : Fk J w w2 :=
 ⟨k.os.trans h.os, k.tape.trans h.tape, k.output.trans h.output, Nat.le_trans h.s k.s, fun j hj hn => (k.k j (Nat.lt_of_lt_of_le hj h.s) fun hK => hn (hk j hj hK)).trans (h.k j hj hn)⟩
theorem Fk.of_below' {B : Nat} {w w' : World} (h : Below B w w') : Fk (fun j => B <= j) w w' := ⟨h.os, h.tape, h.output, h.size, fun j _ hn => h.block j (Nat.lt_of_not_le hn)⟩
theorem tw_drop (p : UInt8 -> Bool) : ∀ l : Bytes, l.drop (l.takeWhile p).length = l.dropWhile p
 | [] => rfl
 | c :: r => by
  cases h : p c with
  | true => rw [List.takeWhile_cons_of_pos h, List.dropWhile_cons_of_pos h, List.length_cons, List.drop_succ_cons, tw_drop p r]
  | false => rw [List.takeWhile_cons_of_neg (by rw [h]; simp), List.dropWhile_cons_of_neg (by rw [h]; simp)]; rfl
theorem tw_len (p : UInt8 -> Bool) (l : Bytes) : (l.takeWhile p).length <= l.length := (List.takeWhile_prefix _).length_le
def DesP (l : Bytes) (k A B : Nat) (w : World) (R : List Bytes × Bytes) : Ending -> World -> Prop := fun e w' => ∃ (wv : Value) (k' : Nat), e = .returned wv ∧ k <= k' ∧ k' <= l.length ∧ l.drop k' = R.2 ∧
 w'.ownsRow w.heap.size 9 1 wv R.1.length (Strs R.1) ∧ CB w' A 3 #[.int .i64 (k' : Int)] ∧ CB w' B 9 #[.string (bs l)] ∧ Fk (fun j => j = A) w w'
theorem describers_any (l : Bytes) (k A B : Nat) (w : World) (hl : l.length <= 1024000000) (hkl : k <= l.length) (cA : CB w A 3 #[.int .i64 k]) (cB : CB w B 9 #[.string (bs l)]) (hBA : B ≠ A) :
  Calls Tryz.prog 68 #[.func (.func 62) #[] #[.pointer (some ⟨A, 0, none⟩), .pointer (some ⟨B, 0, none⟩)]] w (DesP l k A B w (wdsF (l.drop k))) := by
 obtain ⟨i1, hi1, hz1, hz2, hz3⟩ := info_parts str_info
 obtain ⟨R, hR⟩ := ex_ (wdsF (l.drop k))
 rw [<- hR]
 have HR := h_ hR
 have HLT := h_ (show A < w.heap.size ∧ B < w.heap.size from ⟨cA.lt, cB.lt⟩)
 have HA := h_ cA
 have HB := h_ cB
 have HBA := h_ hBA
 obtain ⟨N, hN⟩ := ex_ (l.length)
 have HN := h_ hN
 rw [<- hN] at hl hkl
 clear hR cA cB hBA hN
 go_enter Tryz.func68, Tryz.ntmps68
 go_wp2_with fail
 go_loopg [3] (N + 1) (fun gf wv wr => ∃ (j : Nat) (acc : List Bytes), k <= j ∧ j <= N ∧ N - j < gf ∧ acc.length <= j ∧ Hid (R = (acc ++ (wdsF (l.drop j)).1, (wdsF (l.drop j)).2)) ∧ Hid (wr.ownsRow w.heap.size 9 1 wv acc.length (Strs acc)) ∧ Hid (CB wr A 3 #[.int .i64 (j : Int)]) ∧ Hid (CB wr B 9 #[.string (bs l)]) ∧ Hid (Fk (fun j => j = A) w wr))
 case atStart => exact ⟨k, [], Nat.le_refl _, hkl, by omega, by simp, by rw [HR.out]; rfl, World.ownsRow_nil _ _ _ _, HA.out, HB.out, Fk.refl _ _⟩
 case round =>
  obtain ⟨j, acc, hkj, hjN, hf, hal, HW, HO, HA1, HB1, HF⟩ := hrel
  obtain ⟨g', rfl⟩ : ∃ g', gk = g' + 1 := ⟨gk - 1, by omega⟩
  have hjl : j <= l.length := by rw [<- HN.out]; exact hjN
  have hs1 := skip_any ask_blank l j A B false wr (by rw [<- HN.out]; exact hl) hjl HA1.out HB1.out (fun b h => by cases h) (by simp) (by simp) HBA.out
  rw [askN_tw] at hs1
  obtain ⟨j1, hj1⟩ := ex_ (j + ((l.drop j).takeWhile blE).length)
  have hj1l : j1 <= l.length := by
   have := tw_len blE (l.drop j)
   rw [List.length_drop] at this
   omega
  have hd1 : l.drop j1 = (l.drop j).dropWhile blE := by rw [hj1, <- List.drop_drop, tw_drop]
  rw [<- hj1] at hs1
  have hw := wds_eq (l.drop j)
  rw [<- hd1] at hw
  obtain ⟨n2, hn2⟩ := ex_ (wordN false (l.drop j1))
  rw [<- hn2] at hw
  have hn2l : n2 <= l.length - j1 := by
   have := wordN_le (l.drop j1) false
   rw [List.length_drop] at this
   omega
  have HS1 := h_ hs1
  have HS2 := h_ (fun (f : Nat) (W : World) (a : CB W A 3 #[.int .i64 (j1 : Int)]) (b : CB W B 9 #[.string (bs l)]) (c : CB W f 4 #[.bool false]) (d : f ≠ A) (e : f ≠ B) => skip_any (ask_d1 f) l j1 A B false W (by rw [<- HN.out]; exact hl) hj1l a b (fun b h => by obtain rfl : f = b := Option.some.inj h; exact c) (by simpa using d) (by simpa using e) HBA.out)
  rw [askN_word, <- hn2] at HS2
  obtain ⟨x, hx⟩ := ex_ ((l.drop j1).take n2)
  rw [<- hx] at HS2 hw
  have hxl : x.length = n2 := by rw [hx, List.length_take, List.length_drop]; omega
  have hjj : j <= j1 := by omega
  have HJN := h_ (show j1 + n2 <= N by have := HN.out; omega)
  obtain ⟨t, ht⟩ := ex_ (bs x)
  rw [show S x = Value.string t by rw [ht]] at HS2
  clear hs1 hj1 hd1 hn2 hn2l hj1l hjl
  by_cases h0 : n2 = 0
  ·rw [if_pos h0] at hw
   have hx0 : x = [] := List.eq_nil_of_length_eq_zero (by omega)
   have he : t.toList = [] := by rw [ht, hx0, toList_bs]
   have he1 : t.toList.isEmpty = true := by rw [he]; rfl
   have HFIN := h_ (show R = (acc, l.drop j1) by rw [HW.out, hw]; simp)
   have HT := h_ ht
   clear ht hx hw hx0 hxl HW
   go_wp2_with fail
   refine HS1.out.mono ?_
   rintro e w3 ⟨rfl, hA, hB, hF⟩
   have HA3 := h_ hA
   have HB3 := h_ hB
   have HF3 := h_ (HF.out.step hF (fun i _ h => h.elim id (fun h => by cases h)))
   have HO3 := h_ (hF.row HO.out (fun g h1 _ _ h2 => h2.elim (fun e => by have := HLT.out.1; omega) (fun e => by cases e)))
   clear hA hB hF
   go_upto_region 4 with fail
   have HC4 := h_ (CB.new w3 4 #[.bool false])
   have hb4 := (Below.refl w3.heap.size w3).alloc (Nat.le_refl _) (.cells #[.bool false] 4)
   obtain ⟨w4, hw4⟩ := ex_ (w3.alloc (.cells #[.bool false] 4))
   rw [<- hw4] at HC4 hb4 ⊢
   have HA4 := h_ (HA3.out.keep hb4)
   have HB4 := h_ (HB3.out.keep hb4)
   have LT4 := h_ HF3.out.s
   have NE4 := h_ (show w3.heap.size ≠ A ∧ w3.heap.size ≠ B from by have := HLT.out; have := HF3.out.s; omega)
   have HF4 := h_ (HF3.out.trans (Fk.of_below hb4))
   have HO4 := h_ (own_below' HO3.out hb4)
   have HG4 := h_ (fun g hg => (HO3.out.lt g hg).2)
   clear hw4 hb4
   go_wp2_with fail
   refine (HS2.out _ _ HA4.out HB4.out HC4.out NE4.out.1 NE4.out.2).mono ?_
   rintro e w5 ⟨rfl, hA, hB, hF⟩
   have HA5 := h_ hA
   have HB5 := h_ hB
   have HF5 := h_ (HF4.out.step hF (fun i h1 h => h.elim id (fun h => by have := LT4.out; have := Option.some.inj h; omega)))
   have HO5 := h_ (hF.row HO4.out (fun g h1 _ h3 h2 => h2.elim (fun e => by have := HLT.out.1; omega) (fun e => by have := HG4.out g h3; have := Option.some.inj e; omega)))
   clear hA hB hF
   go_wp2_with fail
   go_ret
   exact ⟨_, j1, rfl, by omega, by have := HJN.out; have := HN.out; omega, by rw [HFIN.out], by rw [HFIN.out]; exact HO5.out, by have := HA5.out; rw [h0] at this; exact this, HB5.out, HF5.out⟩
  ·rw [if_neg h0] at hw
   have he : ¬ t.toList = [] := by
    rw [ht, toList_bs]
    rintro rfl
    exact h0 (by simpa using hxl.symm)
   have he1 : t.toList.isEmpty = false := by simpa using he
   have HREL := h_ (show R = ((acc ++ [x]) ++ (wdsF (l.drop (j1 + n2))).1, (wdsF (l.drop (j1 + n2))).2) by
    rw [HW.out, hw, List.drop_drop]
    simp)
   have HT := h_ (show Value.string t = .string (bs x) by rw [ht])
   have hpos : 0 < n2 := Nat.pos_of_ne_zero h0
   clear ht hx hw hxl HW h0
   go_wp2_with fail
   refine HS1.out.mono ?_
   rintro e w3 ⟨rfl, hA, hB, hF⟩
   have HA3 := h_ hA
   have HB3 := h_ hB
   have HF3 := h_ (HF.out.step hF (fun i _ h => h.elim id (fun h => by cases h)))
   have HO3 := h_ (hF.row HO.out (fun g h1 _ _ h2 => h2.elim (fun e => by have := HLT.out.1; omega) (fun e => by cases e)))
   clear hA hB hF
   go_upto_region 4 with fail
   have HC4 := h_ (CB.new w3 4 #[.bool false])
   have hb4 := (Below.refl w3.heap.size w3).alloc (Nat.le_refl _) (.cells #[.bool false] 4)
   obtain ⟨w4, hw4⟩ := ex_ (w3.alloc (.cells #[.bool false] 4))
   rw [<- hw4] at HC4 hb4 ⊢
   have HA4 := h_ (HA3.out.keep hb4)
   have HB4 := h_ (HB3.out.keep hb4)
   have LT4 := h_ HF3.out.s
   have NE4 := h_ (show w3.heap.size ≠ A ∧ w3.heap.size ≠ B from by have := HLT.out; have := HF3.out.s; omega)
   have HF4 := h_ (HF3.out.trans (Fk.of_below hb4))
   have HO4 := h_ (own_below' HO3.out hb4)
   have HG4 := h_ (fun g hg => (HO3.out.lt g hg).2)
   clear hw4 hb4
   go_wp2_with fail
   refine (HS2.out _ _ HA4.out HB4.out HC4.out NE4.out.1 NE4.out.2).mono ?_
   rintro e w5 ⟨rfl, hA, hB, hF⟩
   have HA5 := h_ hA
   have HB5 := h_ hB
   have HF5 := h_ (HF4.out.step hF (fun i h1 h => h.elim id (fun h => by have := LT4.out; have := Option.some.inj h; omega)))
   have HO5 := h_ (hF.row HO4.out (fun g h1 _ h3 h2 => h2.elim (fun e => by have := HLT.out.1; omega) (fun e => by have := HG4.out g h3; have := Option.some.inj e; omega)))
   clear hA hB hF
   have hbs : w.heap.size <= w5.heap.size := HF5.out.s
   have hj2 := HJN.out
   go_wp2_with (first
    | (at_builtin; (refine push1 rfl (.tmp 14) (.tmp 16) _ rfl w.heap.size 9 i1 (.string ⟨#[]⟩) 16 Tryz.underlying28 hi1 hz1 hz2 hz3 (by decide) _ _ acc.length (Strs acc) rfl HO5.out (.string t) rfl rfl (by omega) (by decide) (by omega) ?_); intro v9 w9 hown9 hw9 hb9; have HO9 := h_ hown9; clear hown9; have HB9 := h_ hb9; clear hb9)
    | fail)
   go_roundg g'
   case measure => omega
   case rel =>
    refine ⟨j1 + n2, acc ++ [x], by omega, by omega, by omega, by simp; omega, HREL.out, ?_, ?_, ?_, HF5.out.step (Fk.of_below' HB9.out) (fun i h1 h2 => absurd h1 (Nat.not_lt_of_le h2))⟩
    ·have h9 := HO9.out
     rw [HT.out] at h9
     rw [List.length_append, List.length_singleton, strs_snoc]
     exact h9
    ·exact ⟨(HB9.out.block A HLT.out.1).trans HA5.out.a⟩
    ·exact ⟨(HB9.out.block B HLT.out.2).trans HB5.out.a⟩

theorem cand_info : (Tryz.prog.info? 59).map (fun i => (i.zero, i.size, i.bytes)) = some (some (.agg (cCells nilV C0)), 8, 88) := by kernel_rfl
theorem row_ne {W : World} {b1 e1 s1 n1 b2 e2 s2 n2 : Nat} {v1 v2 : Value} {x1 x2 : List Value} (h1 : W.ownsRow b1 e1 s1 v1 n1 x1) (h2 : W.ownsRow b2 e2 s2 v2 n2 x2) (he : e1 ≠ e2) : ∀ k, v1.ownBlock = some k -> v2.ownBlock ≠ some k := by
 intro k hk hk2
 rcases h1.2 with ⟨rfl, _⟩ | ⟨g, cap, cur, rfl, _, hh, _⟩
 ·cases hk
 ·rcases h2.2 with ⟨rfl, _⟩ | ⟨g2, cap2, cur2, rfl, _, hh2, _⟩
  ·cases hk2
  ·obtain rfl : g = k := Option.some.inj hk
   obtain rfl : g2 = g := Option.some.inj hk2
   rw [hh] at hh2
   injection hh2 with hh2
   injection hh2 with _ hh2
   exact he hh2
def CRow (W : World) (base : Nat) (v : Value) (l : List Cand) : Prop := ∃ ps : List (Value × Cand), ps.map (·.2) = l ∧ W.ownsRow base 59 8 v ps.length (ps.flatMap fun p => (cCells p.1 p.2).toList) ∧
 ∀ p ∈ ps, W.ownsRow base 9 1 p.1 p.2.words.length (Strs p.2.words)
theorem CRow.nil (W : World) (base : Nat) : CRow W base (.slice none 0 0) [] := ⟨[], rfl, World.ownsRow_nil _ _ _ _, fun p hp => by cases hp⟩
theorem Fk.rowN {J : Nat -> Prop} {w w' : World} (h : Fk J w w') {base e s n : Nat} {v : Value} {xs : List Value} (i : w.ownsRow base e s v n xs) (hn : ∀ g, base <= g -> g < w.heap.size -> ¬ J g) : w'.ownsRow base e s v n xs := by
 refine ⟨i.1, ?_⟩
 rcases i.2 with h0 | ⟨g, cap, cur, e1, hg, hh, hr⟩
 ·exact .inl h0
 ·have hlt := (Array.getElem?_eq_some_iff.1 hh).1
  exact .inr ⟨g, cap, cur, e1, hg, (h.k g hlt (hn g hg hlt)).trans hh, hr⟩
theorem CRow.fk {W W' : World} {base : Nat} {v : Value} {l : List Cand} {J : Nat -> Prop} (c : CRow W base v l) (h : Fk J W W') (hn : ∀ g, base <= g -> g < W.heap.size -> ¬ J g) : CRow W' base v l := by
 obtain ⟨ps, h1, h2, h3⟩ := c
 exact ⟨ps, h1, h.rowN h2 hn, fun p hp => h.rowN (h3 p hp) hn⟩
theorem CRow.below {W W' : World} {base : Nat} {v : Value} {l : List Cand} (c : CRow W base v l) (h : Below W.heap.size W W') : CRow W' base v l := c.fk (J := fun _ => False) ⟨h.os, h.tape, h.output, h.size, fun j hj _ => h.block j hj⟩ fun _ _ _ h => h
theorem CRow.base {W : World} {base base' : Nat} {v : Value} {l : List Cand} (c : CRow W base v l) (hb : base' <= base) : CRow W base' v l := by
 have key : ∀ {e s n : Nat} {v : Value} {xs : List Value}, W.ownsRow base e s v n xs -> W.ownsRow base' e s v n xs := by
  intro e s n v xs i
  refine ⟨i.1, ?_⟩
  rcases i.2 with h0 | ⟨g, cap, cur, e1, hg, hr⟩
  ·exact .inl h0
  ·exact .inr ⟨g, cap, cur, e1, Nat.le_trans hb hg, hr⟩
 obtain ⟨ps, h1, h2, h3⟩ := c
 exact ⟨ps, h1, key h2, fun p hp => key (h3 p hp)⟩
theorem CRow.len {W : World} {base : Nat} {v : Value} {l : List Cand} (c : CRow W base v l) : ∃ a cp, v = .slice a l.length cp := by
 obtain ⟨ps, rfl, h2, _⟩ := c
 rw [List.length_map]
 rcases h2.2 with ⟨rfl, h0⟩ | ⟨g, cap, cur, rfl, _⟩
 ·exact ⟨none, 0, by rw [h0]⟩
 ·exact ⟨_, _, rfl⟩
def Cands (B : Nat) (W : World) (v : Value) (l : List Cand) : Prop :=
 ∃ c, l.length <= c ∧ ((l = [] ∧ ∃ a, v = .slice a 0 c) ∨ ∃ b o, b < B ∧ v = .slice (some ⟨b, o, none⟩) l.length c ∧ ∀ k (hk : k < l.length), ∃ wv, W.rangeAt b (o + k * 8) (cCells wv l[k]).toList ∧ Sl B W wv (l[k].words.map S))
theorem flat_at {α : Type} (f : α -> List Value) (n : Nat) : ∀ (ps : List α) (_ : ∀ p ∈ ps, (f p).length = n) (k j : Nat) (hk : k < ps.length) (_ : j < n), (ps.flatMap f)[k * n + j]? = (f ps[k])[j]?
 | [], _, k, j, hk, _ => absurd hk (Nat.not_lt_zero _)
 | p :: ps, h, 0, j, hk, hj => by
  rw [List.flatMap_cons, Nat.zero_mul, Nat.zero_add, List.getElem?_append_left (by rw [h p (by simp)]; exact hj)]
  rfl
 | p :: ps, h, k + 1, j, hk, hj => by
  have ih := flat_at f n ps (fun q hq => h q (by simp [hq])) k j (by simpa using hk) hj
  rw [List.flatMap_cons, List.getElem?_append_right (by rw [h p (by simp), Nat.succ_mul]; omega), h p (by simp)]
  rw [show (k + 1) * n + j - n = k * n + j by rw [Nat.succ_mul]; omega]
  exact ih
theorem CRow.cands {W : World} {base : Nat} {v : Value} {l : List Cand} (c : CRow W base v l) (hl : l.length <= maxLen) : Cands W.heap.size W v l := by
 obtain ⟨ps, rfl, h2, h3⟩ := c
 rcases h2.2 with ⟨rfl, h0⟩ | ⟨g, cap, cur, rfl, hg, hh, hnc, hcm, hsz, htk⟩
 ·have : ps = [] := List.eq_nil_of_length_eq_zero h0
  subst this
  exact ⟨0, Nat.le_refl _, .inl ⟨rfl, none, rfl⟩⟩
 ·refine ⟨cap, by rw [List.length_map]; exact hnc, .inr ⟨g, 0, (Array.getElem?_eq_some_iff.1 hh).1, by rw [List.length_map], fun k hk => ?_⟩⟩
  have hk' : k < ps.length := by simpa using hk
  refine ⟨ps[k].1, fun j x hj => ?_, ?_⟩
  ·rw [List.getElem_map] at hj
   have hj8 : j < 8 := (List.getElem?_eq_some_iff.1 hj).1
   have hf := flat_at (fun p : Value × Cand => (cCells p.1 p.2).toList) 8 ps (fun p _ => rfl) k j hk' hj8
   have := h2.cells (g := g) rfl (k * 8 + j) x (hf.trans hj)
   rw [addr_add, <- Nat.add_assoc] at this
   exact this
  ·rw [List.getElem_map]
   exact Sl.of_own (own_ts (h3 ps[k] (List.getElem_mem hk')))
theorem hs1 (u : Bytes) : Lib.hasSuffix u [44] = commaE u := by
 cases hu : u.reverse with
 | nil =>
  have : u = [] := by simpa using hu
  subst this
  decide
 | cons x r =>
  have : u = r.reverse ++ [x] := by
   have := congrArg List.reverse hu
   simpa using this
  rw [this, suf1]
  unfold commaE
  rw [List.getLast?_concat, decide_eq_decide, b2_44]
  simp
theorem hs_any (u : Bytes) (w : World) (hu : u.length <= 1024000000) : Calls Tryz.prog 66 #[.string (bs u), .string (bs [44])] w fun e w' => e = .returned (.bool (commaE u)) ∧ w' = w := by
 have h := Any.strings_HasSuffix Tryz.laysHS (bs u) (bs [44]) w (by rw [bs_size]; omega)
 rw [show (bs u).data.toList = u from ls_bs u, show (bs [44]).data.toList = [44] from ls_bs _, hs1] at h
 exact h
theorem tr_any (u : Bytes) (w : World) (hu : u.length <= 1024000000) : Calls Tryz.prog 67 #[.string (bs u), .string (bs [44])] w fun e w' => e = .returned (S (trimC u)) ∧ Below w.heap.size w w' := by
 have h116 : (Tryz.prog.info? (Tryz.laysTR_ren.t 116)).map (fun i => (i.zero, i.size)) = some (some (.agg (Array.replicate 256 (.bool false))), 256) := by kernel_rfl
 have h := Any.strings_TrimRight_laid Tryz.laysTR h116 (bs u) (bs [44]) w (by rw [bs_size]; omega) (by decide) (ascii_of_all (by decide))
 rw [show (bs u).data.toList = u from ls_bs u, show (bs [44]).data.toList = [44] from ls_bs _] at h
 refine h.mono ?_
 rintro e w' ⟨rfl, hb⟩
 refine ⟨?_, hb⟩
 have e1 : Lib.trimRightS u [44] = trimC u := by
  unfold Lib.trimRightS trimC
  congr 2
  funext x
  by_cases hx : x = 44 <;> simp [hx]
 rw [e1]
 rfl
section
variable {ops : Array Oper} {rest : List Oper} {o : Oper} {a : Act} {w : World} {Q : Exit -> Act -> World -> Prop}
theorem bldCs (wv : Value) (c : Cand) (w : World) : (Instr.buildSlice 53 1 #[(0, .agg (cCells wv c))]).run Tryz.prog w = .ok (.slice (some ⟨w.heap.size, 0, none⟩) 1 1) (w.alloc (.cells (cCells wv c) 59)) := by kernel_rfl
theorem bsliceC (hg : o.guard = none) (y : Operand) (ho : o.op = .buildSlice 53 1 #[(0, y)]) (wv : Value) (c : Cand) (hy : a.eval y = .agg (cCells wv c))
  (h : wpList Tryz.prog ops Q rest (a.put o.dst (.slice (some ⟨w.heap.size, 0, none⟩) 1 1)) (w.alloc (.cells (cCells wv c) 59))) : wpList Tryz.prog ops Q (o :: rest) a w := by
 refine wpList_plain hg fun K hK => ?_
 unfold Oper.wp execOp
 have e : (#[(0, y)] : Array (Nat × Operand)).map (fun (i, x) => (i, a.eval x)) = #[(0, .agg (cCells wv c))] := by simp [hy]
 simp only [ho, Sem.run_bind, Sem.run_pure, Result.andThen_ok, e, bldCs]
 exact hK _ _ h
theorem pushC (hgd : o.guard = none) (s x : Operand) (ho : o.op = .call { callee := .builtin .append, args := #[s, x], argTypes := #[53, 53] })
  (base : Nat) {v wv : Value} {l : List Cand} {c : Cand} (hs : a.eval s = v) (hown : CRow w base v l) (hw : w.ownsRow base 9 1 wv c.words.length (Strs c.words)) (hx : a.eval x = .slice (some ⟨w.heap.size, 0, none⟩) 1 1)
  (h63 : l.length + 1 <= 1099511627776) (hbase : base <= w.heap.size)
  (h : ∀ v' w', CRow w' base v' (l ++ [c]) -> Below base w w' -> wpList Tryz.prog ops Q rest (a.put o.dst v') w') :
  wpList Tryz.prog ops Q (o :: rest) a (w.alloc (.cells (cCells wv c) 59)) := by
 obtain ⟨i, hi, hz, hz1, hz2⟩ := info_parts cand_info
 obtain ⟨ps, rfl, h2, h3⟩ := hown
 rw [List.length_map] at h63
 have hb0 : Below w.heap.size w (w.alloc (.cells (cCells wv c) 59)) := (Below.refl _ _).alloc (Nat.le_refl _) _
 refine wpList_append_own_at _ hgd s x _ ho base 59 i _ 8 88 Tryz.underlying53 hi hz hz1 hz2 (by rfl) (by decide) v ps.length _ hs (h2.alloc _) ⟨w.heap.size, 0, none⟩ 1 1 (cCells wv c).toList hx rfl ?_ (c_one (own_one hw)) (by unfold maxLen; omega) (by omega) (Nat.le_trans hbase hb0.size) ?_
 ·intro j u hj
  rw [addr_add, Nat.zero_add]
  have hj2 : (cCells wv c)[j]? = some u := by rw [<- Array.getElem?_toList]; exact hj
  rw [World.cell?_alloc_mark]
  exact hj2
 ·intro v' w' ho' hg _ _
  have hkeep : ∀ {u : Value} {ws : List Bytes}, w.ownsRow base 9 1 u ws.length (Strs ws) -> w'.ownsRow base 9 1 u ws.length (Strs ws) := by
   intro u ws hu
   have hu1 := own_below' hu hb0
   refine ⟨hu1.1, ?_⟩
   rcases hu1.2 with h0 | ⟨g, cap, cur, e1, hgb, hh, hr⟩
   ·exact .inl h0
   ·refine .inr ⟨g, cap, cur, e1, hgb, (hg.block g (Array.getElem?_eq_some_iff.1 hh).1 fun e => ?_).trans hh, hr⟩
    exact row_ne hu1 (h2.alloc (.cells (cCells wv c) 59)) (by decide) g (by rw [e1]; rfl) e.symm
  refine h v' w' ⟨ps ++ [(wv, c)], by simp, ?_, ?_⟩ ?_
  ·rw [List.length_append, List.flatMap_append]
   simpa using ho'
  ·intro p hp
   rcases List.mem_append.mp hp with hp | hp
   ·exact hkeep (h3 p hp)
   ·obtain rfl : p = (wv, c) := by simpa using hp
    exact hkeep hw
  ·exact ((hb0.mono hbase)).grown hg (Nat.le_trans hbase hb0.size) (fun k hk => (h2.lt k hk).1)
end
end Go.Proofs.YtpckaimpjccjhaaGreatDoor
