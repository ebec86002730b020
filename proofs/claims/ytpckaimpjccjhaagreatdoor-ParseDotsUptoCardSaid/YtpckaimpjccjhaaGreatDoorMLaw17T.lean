/- The walk of ParseDots, for texts up to 1048576 bytes. -/
import Derived.Test.YtpckaimpjccjhaaGreatDoorMLaw17S
import Derived.Test.YtpckaimpjccjhaaGreatDoorGAthW
set_option maxHeartbeats 40000000
namespace Go.Proofs.YtpckaimpjccjhaaGreatDoor
open Go.RowKit
set_option maxRecDepth 10000
def letB (x : UInt8) : UInt8 := UInt8.ofNat (97 + x.toNat % 26)
theorem letB_k : ∀ k : Fin 256, 97 <= b2 (letB (UInt8.ofNat k.val)) ∧ b2 (letB (UInt8.ofNat k.val)) <= 122 := by decide +kernel
theorem letB_is (x : UInt8) : 97 <= b2 (letB x) ∧ b2 (letB x) <= 122 := all_bytes (P := fun x => 97 <= b2 (letB x) ∧ b2 (letB x) <= 122) letB_k x
theorem let_map {l : Bytes} (h : 2 <= l.length) : Let (l.map letB) :=
 ⟨fun y hy => by obtain ⟨x, _, rfl⟩ := List.mem_map.mp hy; exact letB_is x, by rw [List.length_map]; exact h⟩
def alpha : ByteArray := ⟨#[97, 98, 99, 100, 101, 102, 103, 104, 105, 106, 107, 108, 109, 110, 111, 112, 113, 114, 115, 116, 117, 118, 119, 120, 121, 122]⟩
theorem alpha_k : ∀ k : Fin 26, ls (alpha.extract k.val (k.val + 1)) = [UInt8.ofNat (97 + k.val)] := by decide +kernel
theorem alpha_at {r : Nat} (h : r < 26) : alpha.extract r (r + 1) = bs [UInt8.ofNat (97 + r)] := by
 have := alpha_k ⟨r, h⟩
 rw [<- bs_ls (alpha.extract r (r + 1))]
 exact congrArg bs this
theorem let_step {l : Bytes} {k : Nat} (h : k < l.length) : bs ((l.take k).map letB) ++ bs [letB l[k]] = bs ((l.take (k + 1)).map letB) := by
 rw [bs_app, List.take_succ_eq_append_getElem h, List.map_append]
 rfl
theorem sl_last {B : Nat} {W : World} {v : Value} {P : List Bytes} {s : Bytes} (h : Sl B W v ((P ++ [s]).map S)) : ∃ b o c, v = .slice (some ⟨b, o, none⟩) (P.length + 1) c ∧ P.length + 1 <= c ∧ W.cell? ⟨b, o + P.length, none⟩ = some (S s) ∧ (c <= maxLen) ∧ ∀ B', B <= B' -> Sl B' W (.slice (some ⟨b, o, none⟩) P.length c) (P.map S) := by
 obtain ⟨c, h1, h2, h⟩ := h
 rw [List.length_map, List.length_append, List.length_singleton] at *
 rcases h with ⟨h, _⟩ | ⟨b, o, hb, h, ha⟩
 ·simp at h
 ·refine ⟨b, o, c, h, h1, ?_, h2, fun B' hB' => ⟨c, by rw [List.length_map]; omega, h2, .inr ⟨b, o, by omega, by rw [List.length_map], fun j hj => ?_⟩⟩⟩
  ·have := ha P.length (by simp)
   rw [this]
   simp
  ·have hj' : j < P.length := by simpa using hj
   have := ha j (by simp; omega)
   rw [this]
   simp only [List.map_append]
   rw [List.getElem_append_left (by rw [List.length_map]; exact hj')]
theorem parseDots_walk (t : ByteArray) (lv : Value) (l : Bytes) (w : World) (_ : t.size <= maxLen) (hl : Sl w.heap.size w lv (Lib.byteCells l)) (ub : t.size <= 1048576) (hE : Env w) (hN : NE w) :
  Calls Tryz.prog 6 #[.string t, lv] w fun e w' => e = .returned (.bool true) ∧ Below w.heap.size w w' := by
 have HSM := h_ (small17_any w hE hN)
 have hba := fun (W : World) (hW : Below w.heap.size w W) => base17_any t W ub (hE.below hW)
 obtain ⟨cap, hc1, hc2, hl⟩ := hl
 rw [Lib.byteCells_length] at hc1 hl
 obtain ⟨ad, hlv, hat⟩ : ∃ ad, lv = .slice ad l.length cap ∧ (l = [] ∨ ∃ lb lo, lb < w.heap.size ∧ ad = some ⟨lb, lo, none⟩ ∧ At w lb lo (Lib.byteCells l)) := by
  rcases hl with ⟨h, a, e⟩ | ⟨b, o, hb, e, ha⟩
  ·obtain rfl : l = [] := by
    cases l with
    | nil => rfl
    | cons x r => simp [Lib.byteCells] at h
   exact ⟨a, e, .inl rfl⟩
  ·exact ⟨_, e, .inr ⟨b, o, hb, rfl, ha⟩⟩
 subst hlv
 obtain ⟨L, hL⟩ := ex_ (l.length)
 rw [<- hL] at hc1 ⊢
 clear hl
 cases hb : readU (ls t) with
 | none =>
  rw [hb] at hba
  have HBA := h_ (show ∀ W, Below w.heap.size w W -> Calls Tryz.prog 15 #[.string t] W fun e w' => e = .returned (.tuple #[.agg (uCells nilV U0), .bool false]) ∧ Below W.heap.size W w' from hba)
  clear hba hb hE hN hat hL
  go_enter Tryz.func6, Tryz.ntmps6
  go_wp2_with (first
   | (go_at_call 14; refine HSM.out.mono ?_; rintro e w1 ⟨rfl, hb1⟩; have HB1 := h_ hb1; clear hb1)
   | (go_at_call 15; refine (HBA.out _ HB1.out).mono ?_; rintro e w2 ⟨rfl, hb⟩; have HC2 := h_ hb; clear hb)
   | (refine alloc_to rfl 30 rfl _ _ (allUrl _) ?_)
   | (refine storeUrl rfl (.tmp 6) (.tmp 25) rfl nilV U0 rfl rfl rfl rfl rfl ?_; intro w3 _ hb; have HB3 := h_ (stp HB1.out (stp HC2.out hb)); clear hb)
   | fail)
  go_ret
  exact ⟨rfl, HB3.out⟩
 | some b =>
  rw [hb] at hba
  have B8 := h_ (readU_six hb)
  by_cases ht5 : t.size <= 500
  case neg =>
   have HBA := h_ (show ∀ W, Below w.heap.size w W -> Calls Tryz.prog 15 #[.string t] W fun e w' => ∃ pv, e = .returned (.tuple #[.agg (uCells pv b), .bool false]) ∧ w'.ownsRow W.heap.size 9 1 pv b.path.length (Strs b.path) ∧ Below W.heap.size W w' from fun W hW => by have h := hba W hW; unfold BaseP at h; rw [decide_eq_false ht5] at h; exact h)
   clear hba hb hE hN ht5 hat hL
   go_enter Tryz.func6, Tryz.ntmps6
   go_wp2_with (first
    | (go_at_call 14; refine HSM.out.mono ?_; rintro e w1 ⟨rfl, hb1⟩; have HB1 := h_ hb1; clear hb1)
    | (go_at_call 15; refine (HBA.out _ HB1.out).mono ?_; rintro e w2 ⟨bv, rfl, oo, hb⟩; have HC2 := h_ hb; have OC2 := h_ (own_base oo HB1.out.size); clear hb oo)
    | (refine alloc_to rfl 30 rfl _ _ (allUrl _) ?_)
    | (refine storeUrl rfl (.tmp 6) (.tmp 25) rfl bv b B8.out (own_one OC2.out) rfl rfl rfl ?_; intro w3 _ hb; have HB3 := h_ (stp HB1.out (stp HC2.out hb)); clear hb)
    | fail)
   go_ret
   exact ⟨rfl, HB3.out⟩
  case pos =>
   have HBA := h_ (show ∀ W, Below w.heap.size w W -> Calls Tryz.prog 15 #[.string t] W fun e w' => ∃ pv, e = .returned (.tuple #[.agg (uCells pv b), .bool true]) ∧ w'.ownsRow W.heap.size 9 1 pv b.path.length (Strs b.path) ∧ Below W.heap.size W w' from fun W hW => by have h := hba W hW; unfold BaseP at h; rw [decide_eq_true ht5] at h; exact h)
   clear hba
   by_cases hgo : b.opq = false ∧ 2 <= L ∧ L <= 100
   case neg =>
    have hcs : b.opq = true ∨ (b.opq = false ∧ (L : Int) < 2) ∨ (b.opq = false ∧ ¬ (L : Int) < 2 ∧ (100 : Int) < L) := by
     cases ho : b.opq with
     | true => exact .inl rfl
     | false =>
      rw [ho] at hgo
      by_cases h2 : 2 <= L
      ·exact .inr (.inr ⟨rfl, by omega, by have : ¬ L <= 100 := fun h => hgo ⟨rfl, h2, h⟩; omega⟩)
      ·exact .inr (.inl ⟨rfl, by omega⟩)
    clear hb hE hN ht5 hat hL hgo
    rcases hcs with h1 | ⟨h1, h2⟩ | ⟨h1, h2, h3⟩ <;>
    ·have HO := h_ h1
     clear h1
     go_enter Tryz.func6, Tryz.ntmps6
     go_upto_region 3 with (first
      | (go_at_call 14; refine HSM.out.mono ?_; rintro e w1 ⟨rfl, hb1⟩; have HB1 := h_ hb1; clear hb1)
      | (go_at_call 15; refine (HBA.out _ HB1.out).mono ?_; rintro e w2 ⟨bv, rfl, oo, hb⟩; have HC2 := h_ hb; have OC2 := h_ (own_base oo HB1.out.size); clear hb oo)
      | (refine alloc_to rfl 30 rfl _ _ (allUrl _) ?_)
      | (refine storeUrl rfl (.tmp 6) (.tmp 25) rfl bv b B8.out (own_one OC2.out) rfl rfl rfl ?_; intro w3 hh hb; have HH3 := h_ hh; have HB3 := h_ (stp HB1.out (stp HC2.out hb)); clear hb hh)
      | fail)
     have c3 := HH3.out.cell_is (uAt bv b B8.out).opq
     rw [HO.out] at c3
     go_wp2_with fail
     go_ret
     exact ⟨rfl, HB3.out⟩
   case pos =>
    obtain ⟨ho, hL2, hL100⟩ := hgo
    have hl2 : 2 <= l.length := by omega
    obtain ⟨lb, lo, hlb, rfl, hat2⟩ : ∃ lb lo, lb < w.heap.size ∧ ad = some ⟨lb, lo, none⟩ ∧ At w lb lo (Lib.byteCells l) := by
     rcases hat with h | h
     ·rw [h] at hl2; cases hl2
     ·exact h
    have htl : (ls t).length <= 500 := by rw [ls_length]; exact ht5
    have BK := uok_read (by omega) hb
    have G := readU_good hb
    have LT := let_map hl2
    obtain ⟨s, hs⟩ := ex_ (l.map letB)
    rw [<- hs] at LT
    have hsl : s.length = L := by rw [hs, List.length_map, hL]
    obtain ⟨P1, hP1⟩ := ex_ (shortF b.sch b.path)
    obtain ⟨P2, hP2⟩ := ex_ (shortF b.sch P1)
    have r1 := dots_1 G ho LT
    have r2 := dots_2 G ho LT
    have r3 := dots_3 G ho LT
    have r4 := dots_4 G ho LT
    have r5 := dots_5 G ho LT
    rw [<- hP1] at r1 r2 r3 r4 r5
    rw [<- hP2] at r4 r5
    obtain ⟨u1, hu1⟩ := ex_ (withP b (P1 ++ [s]))
    obtain ⟨u2, hu2⟩ := ex_ (withP b (P2 ++ [s]))
    rw [<- hu1] at r1 r2 r3
    rw [<- hu2] at r4 r5
    have K1 := h_ (uok_rd htl (by omega) hb r1)
    have K2 := h_ (uok_rd htl (by simp only [List.length_append, List.length_cons, List.length_nil]; omega) hb r5)
    have PA1 := h_ (show u1.path = P1 ++ [s] by rw [hu1]; rfl)
    have PA2 := h_ (show u2.path = P2 ++ [s] by rw [hu2]; rfl)
    have hpl : P1.length <= 307200000 ∧ P2.length <= 307200000 := by
     have h1 := K1.out.bs.1
     have h2 := K2.out.bs.1
     rw [PA1.out, List.length_append] at h1
     rw [PA2.out, List.length_append] at h2
     exact ⟨by omega, by omega⟩
    obtain ⟨x1, hx1⟩ := ex_ (bs s)
    have hx1z : x1.size <= 1000 := by rw [hx1, bs_size]; omega
    obtain ⟨x2, hx2⟩ : ∃ x2, (⟨#[46, 47]⟩ : ByteArray) ++ x1 = x2 := ⟨_, rfl⟩
    obtain ⟨x3, hx3⟩ : ∃ x3, (⟨#[120, 121, 47, 46, 46, 47]⟩ : ByteArray) ++ x1 = x3 := ⟨_, rfl⟩
    obtain ⟨y4, hy4⟩ : ∃ y4, (⟨#[37, 50, 69, 47, 46, 37, 50, 101, 47, 120, 121, 47]⟩ : ByteArray) ++ x1 = y4 := ⟨_, rfl⟩
    obtain ⟨z4, hz4⟩ : ∃ z4, y4 ++ (⟨#[47, 46, 46, 47, 46, 46, 47]⟩ : ByteArray) = z4 := ⟨_, rfl⟩
    obtain ⟨x4, hx4⟩ : ∃ x4, z4 ++ x1 = x4 := ⟨_, rfl⟩
    obtain ⟨x5, hx5⟩ : ∃ x5, (⟨#[46, 46, 47]⟩ : ByteArray) ++ x1 = x5 := ⟨_, rfl⟩
    have hy4z : y4.size <= 1000 := by rw [<- hy4, ByteArray.size_append, hx1, bs_size]; show 12 + s.length <= 1000; omega
    have hz4z : z4.size <= 1000 := by rw [<- hz4, <- hy4, ByteArray.size_append, ByteArray.size_append, hx1, bs_size]; show 12 + s.length + 7 <= 1000; omega
    have e2 : x2 = bs ([46, 47] ++ s) := by rw [<- hx2, hx1, <- bs_app]; rfl
    have e3 : x3 = bs ([120, 121, 47, 46, 46, 47] ++ s) := by rw [<- hx3, hx1, <- bs_app]; rfl
    have e4 : x4 = bs ([37, 50, 69, 47, 46, 37, 50, 101, 47, 120, 121, 47] ++ s ++ [47, 46, 46, 47, 46, 46, 47] ++ s) := by rw [<- hx4, <- hz4, <- hy4, hx1, <- bs_app, <- bs_app, <- bs_app]; rfl
    have e5 : x5 = bs ([46, 46, 47] ++ s) := by rw [<- hx5, hx1, <- bs_app]; rfl
    have J1 := h_ (fun bv (W : World) (hW : Below w.heap.size w W) (o : Sl W.heap.size W bv (b.path.map S)) => show Calls Tryz.prog 16 #[.agg (uCells bv b), .string x1] W fun e w' => ∃ pv, e = .returned (.tuple #[.agg (uCells pv u1), .bool true]) ∧ w'.ownsRow W.heap.size 9 1 pv u1.path.length (Strs u1.path) ∧ Below W.heap.size W w' from by rw [hx1]; exact join_is BK (by omega) r1 hE hW o)
    have J2 := h_ (fun bv (W : World) (hW : Below w.heap.size w W) (o : Sl W.heap.size W bv (b.path.map S)) => show Calls Tryz.prog 16 #[.agg (uCells bv b), .string x2] W fun e w' => ∃ pv, e = .returned (.tuple #[.agg (uCells pv u1), .bool true]) ∧ w'.ownsRow W.heap.size 9 1 pv u1.path.length (Strs u1.path) ∧ Below W.heap.size W w' from by rw [e2]; exact join_is BK (by simp only [List.length_append, List.length_cons, List.length_nil]; omega) r2 hE hW o)
    have J3 := h_ (fun bv (W : World) (hW : Below w.heap.size w W) (o : Sl W.heap.size W bv (b.path.map S)) => show Calls Tryz.prog 16 #[.agg (uCells bv b), .string x3] W fun e w' => ∃ pv, e = .returned (.tuple #[.agg (uCells pv u1), .bool true]) ∧ w'.ownsRow W.heap.size 9 1 pv u1.path.length (Strs u1.path) ∧ Below W.heap.size W w' from by rw [e3]; exact join_is BK (by simp only [List.length_append, List.length_cons, List.length_nil]; omega) r3 hE hW o)
    have J4 := h_ (fun bv (W : World) (hW : Below w.heap.size w W) (o : Sl W.heap.size W bv (b.path.map S)) => show Calls Tryz.prog 16 #[.agg (uCells bv b), .string x4] W fun e w' => ∃ pv, e = .returned (.tuple #[.agg (uCells pv u2), .bool true]) ∧ w'.ownsRow W.heap.size 9 1 pv u2.path.length (Strs u2.path) ∧ Below W.heap.size W w' from by rw [e4]; exact join_is BK (by simp only [List.length_append, List.length_cons, List.length_nil]; omega) r4 hE hW o)
    have J5 := h_ (fun bv (W : World) (hW : Below w.heap.size w W) (o : Sl W.heap.size W bv (b.path.map S)) => show Calls Tryz.prog 16 #[.agg (uCells bv b), .string x5] W fun e w' => ∃ pv, e = .returned (.tuple #[.agg (uCells pv u2), .bool true]) ∧ w'.ownsRow W.heap.size 9 1 pv u2.path.length (Strs u2.path) ∧ Below W.heap.size W w' from by rw [e5]; exact join_is BK (by simp only [List.length_append, List.length_cons, List.length_nil]; omega) r5 hE hW o)
    have BS := h_ BK.b
    have SS := h_ (show L = l.length ∧ x1 = bs (l.map letB) from ⟨hL, by rw [hx1, hs]⟩)
    have SX := h_ hx1
    have SP := h_ (show P1 = shortF b.sch b.path ∧ P2 = shortF b.sch P1 from ⟨hP1, hP2⟩)
    have PL := h_ hpl
    have HAT := h_ hat2
    have HO := h_ ho
    have hLi2 : ¬ (L : Int) < 2 := by omega
    have hLi1 : ¬ (100 : Int) < L := by omega
    clear hb hE hN ht5 htl BK G LT hs hsl hP1 hP2 r1 r2 r3 r4 r5 hu1 hu2 hpl hx1 e2 e3 e4 e5 hL hl2 hat hat2 ho
    go_enter Tryz.func6, Tryz.ntmps6
    go_upto_region 3 with (first
     | (go_at_call 14; refine HSM.out.mono ?_; rintro e w1 ⟨rfl, hb1⟩; have HB1 := h_ hb1; clear hb1)
     | (go_at_call 15; refine (HBA.out _ HB1.out).mono ?_; rintro e w2 ⟨bv, rfl, oo, hb⟩; have HC2 := h_ hb; have OC2 := h_ (own_base oo HB1.out.size); clear hb oo)
     | (refine alloc_to rfl 30 rfl _ _ (allUrl _) ?_)
     | (refine storeUrl rfl (.tmp 6) (.tmp 25) rfl bv b B8.out (own_one OC2.out) rfl rfl rfl ?_; intro w3 hh hb; have Q3 := h_ (show DU w w2.heap.size bv b w3 from ⟨hh, Sl.of_own (own_ts (own_below' OC2.out hb)), stp HB1.out (stp HC2.out hb)⟩); clear hb hh)
     | fail)
    obtain ⟨g6, hg6⟩ := ex_ (w2.heap.size)
    rw [<- hg6] at Q3 ⊢
    have c3 := Q3.out.c.cell_is (uAt bv b B8.out).opq
    rw [HO.out] at c3
    clear hg6 HC2 OC2 HB1 HSM HBA
    go_wp2_with fail
    clear c3
    go_loopw [8, 9] (fun sv iv wr => ∃ k d : Nat, k <= L ∧ iv = .int .i64 k ∧ sv = .string (bs ((l.take k).map letB)) ∧ wr = w3.drewN d) (fun _ i _ => L - (intOf i).toNat)
    case atStart => exact ⟨0, 0, Nat.zero_le _, rfl, rfl, rfl⟩
    case round =>
     obtain ⟨k, d, hk, rfl, rfl, rfl⟩ := hrel
     obtain ⟨sk, hsk⟩ := ex_ (bs ((l.take k).map letB))
     by_cases hlt : k < L
     ·have hkl : k < l.length := by have := SS.out.1; omega
      have hst := let_step hkl
      rw [<- hsk] at hst ⊢
      have hskz : sk.size <= 1000 := by rw [hsk, bs_size, List.length_map, List.length_take]; omega
      obtain ⟨s2, hs2⟩ := ex_ (bs ((l.take (k + 1)).map letB))
      rw [<- hs2] at hst
      have hce : w3.cell? ⟨lb, lo + k, none⟩ = some (.int .u8 (b2 l[k])) := by
       have := (Q3.out.b.cell (p := ⟨lb, lo + k, none⟩) hlb).trans (HAT.out k (by rw [Lib.byteCells_length]; exact hkl))
       simpa [Lib.byteCells, b2] using this
      obtain ⟨c, hc⟩ : ∃ c : Int, c = b2 l[k] := ⟨_, rfl⟩
      obtain ⟨r, hr⟩ : ∃ r : Nat, r = l[k].toNat % 26 := ⟨_, rfl⟩
      have hr26 : r < 26 := by omega
      have hcr : c.tmod 26 = (r : Int) := by rw [hc, hr]; unfold b2; rfl
      have hwr : IntKind.u8.wrap (c.tmod 26) = (r : Int) := by rw [hcr]; exact IntWalk.u8_in _ (by omega)
      obtain ⟨r1, hr1⟩ : ∃ r1 : Nat, r1 = r + 1 := ⟨_, rfl⟩
      have hwr1 : IntKind.u8.wrap ((r : Int) + 1) = (r1 : Int) := by rw [show (r : Int) + 1 = (r1 : Int) by omega]; exact IntWalk.u8_in _ (by omega)
      have hex : (⟨#[97, 98, 99, 100, 101, 102, 103, 104, 105, 106, 107, 108, 109, 110, 111, 112, 113, 114, 115, 116, 117, 118, 119, 120, 121, 122]⟩ : ByteArray).extract r r1 = bs [letB l[k]] := by
       rw [hr1]
       have := alpha_at hr26
       rw [hr] at this ⊢
       exact this
      obtain ⟨y, hy⟩ := ex_ (bs [letB l[k]])
      rw [<- hy] at hex hst
      have hr1b : r1 <= 26 := by omega
      have hr1i : (r1 : Int) <= 26 := by omega
      have hyz : ¬ 9223372036854775807 < sk.size + y.size := by
       have : y.size = 1 := by rw [hy, bs_size]; rfl
       omega
      have hrr1 : r <= r1 := by omega
      rw [<- hc] at hce
      have HS2 := h_ hs2
      clear hs2 hsk hy hr hr1 hc
      go_wp2_with fail
      go_quiet (fail)
      go_wp2_with fail
      go_roundw
      case rel => exact ⟨k + 1, _, by omega, by go_num, by rw [<- HS2.out], rfl⟩
      case measure => simp [intOf]; omega
     ·obtain rfl : k = L := by omega
      have hsx : bs ((l.take k).map letB) = x1 := by rw [SS.out.2, List.take_of_length_le (by have := SS.out.1; omega)]
      rw [hsx]
      clear hsx
      have Q3d := h_ (show DU w g6 bv b (w3.drewN d) from ⟨⟨by simpa using Q3.out.c.a⟩, by have := Q3.out.s.below (drewN_below (Below.refl w3.heap.size w3) d); simpa using this, drewN_below Q3.out.b _⟩)
      obtain ⟨w4, hw4⟩ := ex_ (w3.drewN d)
      rw [<- hw4] at Q3d ⊢
      clear hw4 Q3
      go_upto_region 11 with (first
       | (refine loadUrl (by rfl) (.tmp 6) rfl _ bv b B8.out rfl Q3d.out.c ?_)
       | (go_at_call 16; refine (J1.out bv _ Q3d.out.b Q3d.out.s).mono ?_; rintro e w5 ⟨p1, rfl, oo, hb⟩; have Q5 := h_ (Q3d.out.below hb); have OC := h_ oo; clear hb oo)
       | (refine alloc_to rfl 30 rfl _ _ (allUrl _) ?_)
       | (refine storeUrl rfl (.tmp 10) (.tmp 68) rfl p1 u1 K1.out.six (own_one OC.out) rfl rfl rfl ?_; intro w6 hh hb; have Q6 := h_ (Q5.out.below hb); have U6 := h_ (show DU w w5.heap.size p1 u1 w6 from ⟨hh, Sl.of_own (own_ts (own_below' OC.out hb)), Q5.out.b.trans (hb.mono Q5.out.b.size)⟩); clear hh hb)
       | fail)
      obtain ⟨g10, hg⟩ := ex_ (w5.heap.size)
      rw [<- hg] at U6 ⊢
      clear hg Q5 OC Q3d
      go_upto_region 12 with (first
       | (refine loadUrl (by rfl) (.tmp 6) rfl _ bv b B8.out rfl Q6.out.c ?_)
       | (go_at_call 16; refine (J2.out bv _ Q6.out.b Q6.out.s).mono ?_; rintro e w7 ⟨p2, rfl, oo, hb⟩; have Q7 := h_ (Q6.out.below hb); have U7 := h_ (U6.out.below hb); have OC := h_ oo; clear hb oo)
       | (refine alloc_to rfl 30 rfl _ _ (allUrl _) ?_)
       | (refine storeUrl rfl (.tmp 12) (.tmp 75) rfl p2 u1 K1.out.six (own_one OC.out) rfl rfl rfl ?_; intro w8 hh hb; have Q8 := h_ (Q7.out.below hb); have U8 := h_ (U7.out.below hb); have V8 := h_ (show DU w w7.heap.size p2 u1 w8 from ⟨hh, Sl.of_own (own_ts (own_below' OC.out hb)), Q7.out.b.trans (hb.mono Q7.out.b.size)⟩); clear hh hb)
       | fail)
      obtain ⟨g12, hg⟩ := ex_ (w7.heap.size)
      rw [<- hg] at V8 ⊢
      clear hg Q6 Q7 U6 U7 OC
      go_upto_region 13 with (first
       | (refine loadUrl (by rfl) (.tmp 6) rfl _ bv b B8.out rfl Q8.out.c ?_)
       | (go_at_call 16; refine (J3.out bv _ Q8.out.b Q8.out.s).mono ?_; rintro e w9 ⟨p3, rfl, oo, hb⟩; have Q9 := h_ (Q8.out.below hb); have U9 := h_ (U8.out.below hb); have V9 := h_ (V8.out.below hb); have OC := h_ oo; clear hb oo)
       | (refine alloc_to rfl 30 rfl _ _ (allUrl _) ?_)
       | (refine storeUrl rfl (.tmp 14) (.tmp 82) rfl p3 u1 K1.out.six (own_one OC.out) rfl rfl rfl ?_; intro w10 hh hb; have Q10 := h_ (Q9.out.below hb); have U10 := h_ (U9.out.below hb); have V10 := h_ (V9.out.below hb); have W10 := h_ (show DU w w9.heap.size p3 u1 w10 from ⟨hh, Sl.of_own (own_ts (own_below' OC.out hb)), Q9.out.b.trans (hb.mono Q9.out.b.size)⟩); clear hh hb)
       | fail)
      obtain ⟨g14, hg⟩ := ex_ (w9.heap.size)
      rw [<- hg] at W10 ⊢
      clear hg Q8 Q9 U8 U9 V8 V9 OC
      go_upto_region 14 with (first
       | (refine loadUrl (by rfl) (.tmp 6) rfl _ bv b B8.out rfl Q10.out.c ?_)
       | (go_at_call 16; refine (J4.out bv _ Q10.out.b Q10.out.s).mono ?_; rintro e w11 ⟨p4, rfl, oo, hb⟩; have Q11 := h_ (Q10.out.below hb); have U11 := h_ (U10.out.below hb); have V11 := h_ (V10.out.below hb); have W11 := h_ (W10.out.below hb); have OC := h_ oo; clear hb oo)
       | (refine alloc_to rfl 30 rfl _ _ (allUrl _) ?_)
       | (refine storeUrl rfl (.tmp 16) (.tmp 92) rfl p4 u2 K2.out.six (own_one OC.out) rfl rfl rfl ?_; intro w12 hh hb; have Q12 := h_ (Q11.out.below hb); have U12 := h_ (U11.out.below hb); have V12 := h_ (V11.out.below hb); have W12 := h_ (W11.out.below hb); have X12 := h_ (show DU w w11.heap.size p4 u2 w12 from ⟨hh, Sl.of_own (own_ts (own_below' OC.out hb)), Q11.out.b.trans (hb.mono Q11.out.b.size)⟩); clear hh hb)
       | fail)
      obtain ⟨g16, hg⟩ := ex_ (w11.heap.size)
      rw [<- hg] at X12 ⊢
      clear hg Q10 Q11 U10 U11 V10 V11 W10 W11 OC
      go_upto_region 15 with (first
       | (refine loadUrl (by rfl) (.tmp 6) rfl _ bv b B8.out rfl Q12.out.c ?_)
       | (go_at_call 16; refine (J5.out bv _ Q12.out.b Q12.out.s).mono ?_; rintro e w13 ⟨p5, rfl, oo, hb⟩; have Q13 := h_ (Q12.out.below hb); have U13 := h_ (U12.out.below hb); have V13 := h_ (V12.out.below hb); have W13 := h_ (W12.out.below hb); have X13 := h_ (X12.out.below hb); have OC := h_ oo; clear hb oo)
       | (refine alloc_to rfl 30 rfl _ _ (allUrl _) ?_)
       | (refine storeUrl rfl (.tmp 18) (.tmp 99) rfl p5 u2 K2.out.six (own_one OC.out) rfl rfl rfl ?_; intro w14 hh hb; have Q14 := h_ (Q13.out.below hb); have U14 := h_ (U13.out.below hb); have V14 := h_ (V13.out.below hb); have W14 := h_ (W13.out.below hb); have X14 := h_ (X13.out.below hb); have Y14 := h_ (show DU w w13.heap.size p5 u2 w14 from ⟨hh, Sl.of_own (own_ts (own_below' OC.out hb)), Q13.out.b.trans (hb.mono Q13.out.b.size)⟩); clear hh hb)
       | fail)
      obtain ⟨g18, hg⟩ := ex_ (w13.heap.size)
      rw [<- hg] at Y14 ⊢
      clear hg Q12 Q13 U12 U13 V12 V13 W12 W13 X12 X13 OC J1 J2 J3 J4 J5
      go_upto_region 17 with (first
       | (refine loadUrl (by rfl) (.tmp 10) rfl _ p1 u1 K1.out.six rfl U14.out.c ?_)
       | (refine loadUrl (by rfl) (.tmp 12) rfl _ p2 u1 K1.out.six rfl V14.out.c ?_)
       | (go_at_call 19; with_reducible refine (self_any u1 p1 p2 _ K1.out U14.out.s V14.out.s).mono ?_; rintro e w15 ⟨rfl, hb⟩; have Q15 := h_ (Q14.out.below hb); have U15 := h_ (U14.out.below hb); have W15 := h_ (W14.out.below hb); have X15 := h_ (X14.out.below hb); have Y15 := h_ (Y14.out.below hb); clear hb)
       | (refine loadUrl (by rfl) (.tmp 10) rfl _ p1 u1 K1.out.six rfl U15.out.c ?_)
       | (refine loadUrl (by rfl) (.tmp 14) rfl _ p3 u1 K1.out.six rfl W15.out.c ?_)
       | (go_at_call 19; with_reducible refine (self_any u1 p1 p3 _ K1.out U15.out.s W15.out.s).mono ?_; rintro e w16 ⟨rfl, hb⟩; have Q16 := h_ (Q15.out.below hb); have U16 := h_ (U15.out.below hb); have X16 := h_ (X15.out.below hb); have Y16 := h_ (Y15.out.below hb); clear hb)
       | (refine loadUrl (by rfl) (.tmp 16) rfl _ p4 u2 K2.out.six rfl X16.out.c ?_)
       | (refine loadUrl (by rfl) (.tmp 18) rfl _ p5 u2 K2.out.six rfl Y16.out.c ?_)
       | (go_at_call 19; with_reducible refine (self_any u2 p4 p5 _ K2.out X16.out.s Y16.out.s).mono ?_; rintro e w17 ⟨rfl, hb⟩; have Q17 := h_ (Q16.out.below hb); have U17 := h_ (U16.out.below hb); have Y17 := h_ (Y16.out.below hb); clear hb)
       | fail)
      clear Q14 Q15 Q16 U14 U15 U16 V14 W14 W15 X14 X15 X16 Y14 Y15 Y16
      have hs1 := U17.out.s
      rw [PA1.out] at hs1
      obtain ⟨pb, po, pc, hpe, hpc, hcell, hpm, hcut⟩ := sl_last hs1
      subst hpe
      obtain ⟨K, hK⟩ := ex_ (P1.length)
      obtain ⟨N, hNK⟩ := ex_ (K + 1)
      have HK := h_ hK
      rw [<- hK] at hcut hcell
      rw [<- hK, <- hNK] at U17 hpc
      rw [<- hK, <- hNK]
      have hNi : (0 : Int) < N := by omega
      have hNi2 : decide ((0 : Int) < (N : Int)) = true := decide_eq_true hNi
      have hNi3 : 0 < N := by omega
      have hNi4 : decide (0 < N) = true := decide_eq_true hNi3
      have hKN : K < N := by omega
      have hw0 : IntKind.i64.wrap ((N : Int) - 1) = (K : Int) := by rw [show (N : Int) - 1 = (K : Int) by omega]; exact IntWalk.i64_in _ (by have := PL.out.1; omega)
      have hNL : N <= 307300000 := by have := PL.out.1; omega
      obtain ⟨i1, hi1, hz1, hz2, hz3⟩ := info_parts str_info
      have kc : ∀ W, (Instr.sliceAt 28 (.slice (some ⟨pb, po, none⟩) N pc) none (some (.int .i64 (K : Int))) none).run Tryz.prog W = .ok (.slice (some ⟨pb, po, none⟩) K pc) W := fun W => slice_to Tryz.underlying28 hi1 pb po N pc K (by omega) W
      have hss : (x1.toList == x1.toList) = true := by simp
      replace hcell : w17.cell? ⟨pb, po + K, none⟩ = some (.string x1) := by rw [SX.out]; exact hcell
      have HCU := h_ (hcut w17.heap.size (Nat.le_refl _))
      have HCE := h_ hcell
      have hpb : pb < w17.heap.size := by
       obtain ⟨c', _, _, h⟩ := HCU.out
       obtain ⟨c2, _, _, h2⟩ := U17.out.s
       rcases h2 with ⟨hn, _⟩ | ⟨b2', o2, hb2, he, _⟩
       ·rw [PA1.out] at hn; simp at hn
       ·cases he; exact hb2
      have HPB := h_ hpb
      have c17 := U17.out.c.cell_is (uAt (.slice (some ⟨pb, po, none⟩) N pc) u1 K1.out.six).path
      have HS1 := h_ (fun W (hb : Below w17.heap.size w17 W) => shorten_any b.sch b.path bv W ((Q17.out.s.below hb).more hb.size) (by have := BS.out.1; omega) (fun x hx => by have := BS.out.2 x hx; omega))
      have HS2 := h_ (fun W (hb : Below w17.heap.size w17 W) => shorten_any b.sch P1 (.slice (some ⟨pb, po, none⟩) K pc) W ((HCU.out.below hb).more hb.size) (by have := PL.out.1; omega) (fun x hx => by have := K1.out.bs.2 x (by rw [PA1.out]; exact List.mem_append_left _ hx); omega))
      rw [<- SP.out.1] at HS1
      rw [<- SP.out.2] at HS2
      clear hcut hcell hs1 hpb hK hNK
      go_upto_region 18 with fail
      refine wp_region_held_drew (S := fun W => Below w17.heap.size w17 W) (by kernel_rfl) (by first | exact bz_drew (bz_refl _) | assumption) (fun hHeld => ?_)
      refine tk 0 (v := ?_) rfl (by kernel_rfl) (by kernel_rfl) (by kernel_rfl) (fun _ _ _ h => h) (by rfl) (by assumption) (fun wS hSw => ?_) ?_
      rotate_left
      ·(try dsimp only at hSw); go_simp; first | done | with_reducible rfl
      try simp only [Act.put, List.setIfInBounds_toArray, List.set_cons_zero, List.set_cons_succ]
      refine tk 1 (v := ?_) rfl (by kernel_rfl) (by kernel_rfl) (by kernel_rfl) (fun _ _ _ h => h) (by rfl) (by assumption) (fun wS hSw => ?_) ?_
      rotate_left
      ·(try dsimp only at hSw); go_simp; first | done | with_reducible rfl
      try simp only [Act.put, List.setIfInBounds_toArray, List.set_cons_zero, List.set_cons_succ]
      refine tk 2 (v := ?_) rfl (by kernel_rfl) (by kernel_rfl) (by kernel_rfl) (fun _ _ _ h => h) (by rfl) (by assumption) (fun wS hSw => ?_) ?_
      rotate_left
      ·(try dsimp only at hSw); go_simp; first | done | with_reducible rfl
      try simp only [Act.put, List.setIfInBounds_toArray, List.set_cons_zero, List.set_cons_succ]
      refine tk 3 (v := ?_) rfl (by kernel_rfl) (by kernel_rfl) (by kernel_rfl) (fun _ _ _ h => h) (by rfl) (by assumption) (fun wS hSw => ?_) ?_
      rotate_left
      ·(try dsimp only at hSw); go_simp; first | done | with_reducible rfl
      try simp only [Act.put, List.setIfInBounds_toArray, List.set_cons_zero, List.set_cons_succ]
      refine tk 4 (v := ?_) rfl (by kernel_rfl) (by kernel_rfl) (by kernel_rfl) (fun _ _ _ h => h) (by rfl) (by assumption) (fun wS hSw => ?_) ?_
      rotate_left
      ·(try dsimp only at hSw); go_simp; first | done | with_reducible rfl
      try simp only [Act.put, List.setIfInBounds_toArray, List.set_cons_zero, List.set_cons_succ]
      refine tk 5 (v := ?_) rfl (by kernel_rfl) (by kernel_rfl) (by kernel_rfl) (fun _ _ _ h => h) (by rfl) (by assumption) (fun wS hSw => ?_) ?_
      rotate_left
      ·(try dsimp only at hSw); go_simp; first | done | with_reducible rfl
      try simp only [Act.put, List.setIfInBounds_toArray, List.set_cons_zero, List.set_cons_succ]
      refine tk 6 (v := ?_) rfl (by kernel_rfl) (by kernel_rfl) (by kernel_rfl) (fun _ _ _ h => h) (by rfl) (by assumption) (fun wS hSw => ?_) ?_
      rotate_left
      ·(try dsimp only at hSw); go_simp; first | done | with_reducible rfl
      try simp only [Act.put, List.setIfInBounds_toArray, List.set_cons_zero, List.set_cons_succ]
      refine tk 7 (v := ?_) rfl (by kernel_rfl) (by kernel_rfl) (by kernel_rfl) (fun _ _ _ h => h) (by rfl) (by assumption) (fun wS hSw => ?_) ?_
      rotate_left
      ·(try dsimp only at hSw)
       refine load1_exec 28 (.tmp 146) ?_ g10 18 (.slice (some ⟨pb, po, none⟩) N pc) _ Tryz.underlying28 rfl ?_ ?_
       ·rfl
       ·rfl
       ·exact (U17.out.c.keep hSw).cell_is (uAt _ u1 K1.out.six).path
      try simp only [Act.put, List.setIfInBounds_toArray, List.set_cons_zero, List.set_cons_succ]
      refine tk 8 (v := ?_) rfl (by kernel_rfl) (by kernel_rfl) (by kernel_rfl) (fun _ _ _ h => h) (by rfl) (by assumption) (fun wS hSw => ?_) ?_
      rotate_left
      ·(try dsimp only at hSw); go_simp; first | done | with_reducible rfl
      try simp only [Act.put, List.setIfInBounds_toArray, List.set_cons_zero, List.set_cons_succ]
      refine tk 9 (v := ?_) rfl (by kernel_rfl) (by kernel_rfl) (by kernel_rfl) (fun _ _ _ h => h) (by rfl) (by assumption) (fun wS hSw => ?_) ?_
      rotate_left
      ·(try dsimp only at hSw); go_simp; first | done | with_reducible rfl
      try simp only [Act.put, List.setIfInBounds_toArray, List.set_cons_zero, List.set_cons_succ]
      refine tk 10 (v := ?_) rfl (by kernel_rfl) (by kernel_rfl) (by kernel_rfl) (fun _ _ _ h => h) (by rfl) (by assumption) (fun wS hSw => ?_) ?_
      rotate_left
      ·(try dsimp only at hSw); go_simp; first | done | with_reducible rfl
      try simp only [Act.put, List.setIfInBounds_toArray, List.set_cons_zero, List.set_cons_succ]
      refine tk 11 (v := ?_) rfl (by kernel_rfl) (by kernel_rfl) (by kernel_rfl) (fun _ _ _ h => h) (by rfl) (by assumption) (fun wS hSw => ?_) ?_
      rotate_left
      ·(try dsimp only at hSw)
       refine load1_exec 9 (.tmp 150) ?_ pb (po + K) (.string x1) _ Tryz.underlying9 rfl ?_ ?_
       ·rfl
       ·rfl
       ·exact (hSw.cell (p := ⟨pb, po + K, none⟩) HPB.out).trans HCE.out
      try simp only [Act.put, List.setIfInBounds_toArray, List.set_cons_zero, List.set_cons_succ]
      refine tk 12 (v := ?_) rfl (by kernel_rfl) (by kernel_rfl) (by kernel_rfl) (fun _ _ _ h => h) (by rfl) (by assumption) (fun wS hSw => ?_) ?_
      rotate_left
      ·(try dsimp only at hSw); go_simp; first | done | with_reducible rfl
      try simp only [Act.put, List.setIfInBounds_toArray, List.set_cons_zero, List.set_cons_succ]
      refine tk 13 (v := ?_) rfl (by kernel_rfl) (by kernel_rfl) (by kernel_rfl) (fun _ _ _ h => h) (by rfl) (by assumption) (fun wS hSw => ?_) ?_
      rotate_left
      ·(try dsimp only at hSw); go_simp; first | done | with_reducible rfl
      try simp only [Act.put, List.setIfInBounds_toArray, List.set_cons_zero, List.set_cons_succ]
      refine tk 14 (v := ?_) rfl (by kernel_rfl) (by kernel_rfl) (by kernel_rfl) (fun _ _ _ h => h) (by rfl) (by assumption) (fun wS hSw => ?_) ?_
      rotate_left
      ·(try dsimp only at hSw); go_simp; first | done | with_reducible rfl
      try simp only [Act.put, List.setIfInBounds_toArray, List.set_cons_zero, List.set_cons_succ]
      refine tk 15 (v := ?_) rfl (by kernel_rfl) (by kernel_rfl) (by kernel_rfl) (fun _ _ _ h => h) (by rfl) (by assumption) (fun wS hSw => ?_) ?_
      rotate_left
      ·(try dsimp only at hSw); go_simp; first | done | with_reducible rfl
      try simp only [Act.put, List.setIfInBounds_toArray, List.set_cons_zero, List.set_cons_succ]
      refine tk 16 (v := ?_) rfl (by kernel_rfl) (by kernel_rfl) (by kernel_rfl) (fun _ _ _ h => h) (by rfl) (by assumption) (fun wS hSw => ?_) ?_
      rotate_left
      ·(try dsimp only at hSw); go_simp; first | done | with_reducible rfl
      try simp only [Act.put, List.setIfInBounds_toArray, List.set_cons_zero, List.set_cons_succ]
      refine tk 17 (v := ?_) rfl (by kernel_rfl) (by kernel_rfl) (by kernel_rfl) (fun _ _ _ h => h) (by rfl) (by assumption) (fun wS hSw => ?_) ?_
      rotate_left
      ·(try dsimp only at hSw)
       refine load1_exec 28 (.tmp 156) ?_ g10 18 (.slice (some ⟨pb, po, none⟩) N pc) _ Tryz.underlying28 rfl ?_ ?_
       ·rfl
       ·rfl
       ·exact (U17.out.c.keep hSw).cell_is (uAt _ u1 K1.out.six).path
      try simp only [Act.put, List.setIfInBounds_toArray, List.set_cons_zero, List.set_cons_succ]
      refine tk 18 (v := ?_) rfl (by kernel_rfl) (by kernel_rfl) (by kernel_rfl) (fun _ _ _ h => h) (by rfl) (by assumption) (fun wS hSw => ?_) ?_
      rotate_left
      ·(try dsimp only at hSw); go_simp; first | done | with_reducible rfl
      try simp only [Act.put, List.setIfInBounds_toArray, List.set_cons_zero, List.set_cons_succ]
      refine tk 19 (v := ?_) rfl (by kernel_rfl) (by kernel_rfl) (by kernel_rfl) (fun _ _ _ h => h) (by rfl) (by assumption) (fun wS hSw => ?_) ?_
      rotate_left
      ·(try dsimp only at hSw); go_simp; first | done | with_reducible rfl
      try simp only [Act.put, List.setIfInBounds_toArray, List.set_cons_zero, List.set_cons_succ]
      refine tk 20 (v := ?_) rfl (by kernel_rfl) (by kernel_rfl) (by kernel_rfl) (fun _ _ _ h => h) (by rfl) (by assumption) (fun wS hSw => ?_) ?_
      rotate_left
      ·(try dsimp only at hSw); go_simp; first | done | with_reducible rfl
      try simp only [Act.put, List.setIfInBounds_toArray, List.set_cons_zero, List.set_cons_succ]
      refine tk 21 (v := ?_) rfl (by kernel_rfl) (by kernel_rfl) (by kernel_rfl) (fun _ _ _ h => h) (by rfl) (by assumption) (fun wS hSw => ?_) ?_
      rotate_left
      ·(try dsimp only at hSw); go_simp; first | done | with_reducible rfl
      try simp only [Act.put, List.setIfInBounds_toArray, List.set_cons_zero, List.set_cons_succ]
      refine tk 22 (v := ?_) rfl (by kernel_rfl) (by kernel_rfl) (by kernel_rfl) (fun _ _ _ h => h) (by rfl) (by assumption) (fun wS hSw => ?_) ?_
      rotate_left
      ·(try dsimp only at hSw)
       refine load1_exec 9 (.tmp 161) ?_ g6 0 (S b.sch) _ Tryz.underlying9 rfl ?_ ?_
       ·rfl
       ·rfl
       ·exact (Q17.out.c.keep hSw).cell_is (uAt _ b B8.out).sch
      try simp only [Act.put, List.setIfInBounds_toArray, List.set_cons_zero, List.set_cons_succ]
      refine tk 23 (v := ?_) rfl (by kernel_rfl) (by kernel_rfl) (by kernel_rfl) (fun _ _ _ h => h) (by rfl) (by assumption) (fun wS hSw => ?_) ?_
      rotate_left
      ·(try dsimp only at hSw); go_simp; first | done | with_reducible rfl
      try simp only [Act.put, List.setIfInBounds_toArray, List.set_cons_zero, List.set_cons_succ]
      refine tk 24 (v := ?_) rfl (by kernel_rfl) (by kernel_rfl) (by kernel_rfl) (fun _ _ _ h => h) (by rfl) (by assumption) (fun wS hSw => ?_) ?_
      rotate_left
      ·(try dsimp only at hSw)
       refine load1_exec 28 (.tmp 163) ?_ g6 18 bv _ Tryz.underlying28 rfl ?_ ?_
       ·rfl
       ·rfl
       ·exact (Q17.out.c.keep hSw).cell_is (uAt _ b B8.out).path
      try simp only [Act.put, List.setIfInBounds_toArray, List.set_cons_zero, List.set_cons_succ]
      refine rn 25 (by kernel_rfl) rfl (by rfl) (fun K hK => ?_)
      go_simp
      refine (HS1.out _ hHeld).mono ?_
      rintro e x18 ⟨v18, rfl, oo, hb⟩
      have O18 := h_ (Sl.of_own oo)
      have hB18 := stp hHeld hb
      clear hb oo
      refine hK.out _ _ ?_ (fun hHeld => ?_)
      ·first | exact bz_drew (bz_refl _) | assumption
      clear hK K
      try simp only [Act.put, List.setIfInBounds_toArray, List.set_cons_zero, List.set_cons_succ]
      refine rn 26 (by kernel_rfl) rfl (by rfl) (fun K hK => ?_)
      go_simp
      refine (rsame1_any P1 P1 _ _ _ _ _ ((HCU.out.below hHeld).more hHeld.size) O18.out).mono ?_
      rintro e x19 ⟨he, hb⟩
      rw [decide_eq_true rfl] at he
      subst he
      have hB19 := stp hHeld hb
      clear hb
      refine hK.out _ _ ?_ (fun hHeld => ?_)
      ·first | exact bz_drew (bz_refl _) | assumption
      clear hK K
      try simp only [Act.put, List.setIfInBounds_toArray, List.set_cons_zero, List.set_cons_succ]
      refine tk 27 (v := ?_) rfl (by kernel_rfl) (by kernel_rfl) (by kernel_rfl) (fun _ _ _ h => h) (by rfl) (by assumption) (fun wS hSw => ?_) ?_
      rotate_left
      ·(try dsimp only at hSw); go_simp; first | done | with_reducible rfl
      try simp only [Act.put, List.setIfInBounds_toArray, List.set_cons_zero, List.set_cons_succ]
      refine tk 28 (v := ?_) rfl (by kernel_rfl) (by kernel_rfl) (by kernel_rfl) (fun _ _ _ h => h) (by rfl) (by assumption) (fun wS hSw => ?_) ?_
      rotate_left
      ·(try dsimp only at hSw); go_simp; first | done | with_reducible rfl
      try simp only [Act.put, List.setIfInBounds_toArray, List.set_cons_zero, List.set_cons_succ]
      refine tk 29 (v := ?_) rfl (by kernel_rfl) (by kernel_rfl) (by kernel_rfl) (fun _ _ _ h => h) (by rfl) (by assumption) (fun wS hSw => ?_) ?_
      rotate_left
      ·(try dsimp only at hSw); go_simp; first | done | with_reducible rfl
      try simp only [Act.put, List.setIfInBounds_toArray, List.set_cons_zero, List.set_cons_succ]
      refine tk 30 (v := ?_) rfl (by kernel_rfl) (by kernel_rfl) (by kernel_rfl) (fun _ _ _ h => h) (by rfl) (by assumption) (fun wS hSw => ?_) ?_
      rotate_left
      ·(try dsimp only at hSw)
       refine load1_exec 28 (.tmp 169) ?_ g18 18 p5 _ Tryz.underlying28 rfl ?_ ?_
       ·rfl
       ·rfl
       ·exact (Y17.out.c.keep hSw).cell_is (uAt _ u2 K2.out.six).path
      try simp only [Act.put, List.setIfInBounds_toArray, List.set_cons_zero, List.set_cons_succ]
      refine tk 31 (v := ?_) rfl (by kernel_rfl) (by kernel_rfl) (by kernel_rfl) (fun _ _ _ h => h) (by rfl) (by assumption) (fun wS hSw => ?_) ?_
      rotate_left
      ·(try dsimp only at hSw); go_simp; first | done | with_reducible rfl
      try simp only [Act.put, List.setIfInBounds_toArray, List.set_cons_zero, List.set_cons_succ]
      refine tk 32 (v := ?_) rfl (by kernel_rfl) (by kernel_rfl) (by kernel_rfl) (fun _ _ _ h => h) (by rfl) (by assumption) (fun wS hSw => ?_) ?_
      rotate_left
      ·(try dsimp only at hSw)
       refine load1_exec 9 (.tmp 171) ?_ g6 0 (S b.sch) _ Tryz.underlying9 rfl ?_ ?_
       ·rfl
       ·rfl
       ·exact (Q17.out.c.keep hSw).cell_is (uAt _ b B8.out).sch
      try simp only [Act.put, List.setIfInBounds_toArray, List.set_cons_zero, List.set_cons_succ]
      refine tk 33 (v := ?_) rfl (by kernel_rfl) (by kernel_rfl) (by kernel_rfl) (fun _ _ _ h => h) (by rfl) (by assumption) (fun wS hSw => ?_) ?_
      rotate_left
      ·(try dsimp only at hSw); go_simp; first | done | with_reducible rfl
      try simp only [Act.put, List.setIfInBounds_toArray, List.set_cons_zero, List.set_cons_succ]
      refine tk 34 (v := ?_) rfl (by kernel_rfl) (by kernel_rfl) (by kernel_rfl) (fun _ _ _ h => h) (by rfl) (by assumption) (fun wS hSw => ?_) ?_
      rotate_left
      ·(try dsimp only at hSw)
       refine load1_exec 28 (.tmp 173) ?_ g10 18 (.slice (some ⟨pb, po, none⟩) N pc) _ Tryz.underlying28 rfl ?_ ?_
       ·rfl
       ·rfl
       ·exact (U17.out.c.keep hSw).cell_is (uAt _ u1 K1.out.six).path
      try simp only [Act.put, List.setIfInBounds_toArray, List.set_cons_zero, List.set_cons_succ]
      refine tk 35 (v := ?_) rfl (by kernel_rfl) (by kernel_rfl) (by kernel_rfl) (fun _ _ _ h => h) (by rfl) (by assumption) (fun wS hSw => ?_) ?_
      rotate_left
      ·(try dsimp only at hSw); go_simp; first | done | with_reducible rfl
      try simp only [Act.put, List.setIfInBounds_toArray, List.set_cons_zero, List.set_cons_succ]
      refine tk 36 (v := ?_) rfl (by kernel_rfl) (by kernel_rfl) (by kernel_rfl) (fun _ _ _ h => h) (by rfl) (by assumption) (fun wS hSw => ?_) ?_
      rotate_left
      ·(try dsimp only at hSw); go_simp; first | done | with_reducible rfl
      try simp only [Act.put, List.setIfInBounds_toArray, List.set_cons_zero, List.set_cons_succ]
      refine tk 37 (v := ?_) rfl (by kernel_rfl) (by kernel_rfl) (by kernel_rfl) (fun _ _ _ h => h) (by rfl) (by assumption) (fun wS hSw => ?_) ?_
      rotate_left
      ·(try dsimp only at hSw); go_simp; first | done | with_reducible rfl
      try simp only [Act.put, List.setIfInBounds_toArray, List.set_cons_zero, List.set_cons_succ]
      refine tk 39 (v := ?_) rfl (by kernel_rfl) (by kernel_rfl) (by kernel_rfl) (fun _ _ _ h => h) (by rfl) (by assumption) (fun wS hSw => ?_) ?_
      rotate_left
      ·(try dsimp only at hSw); go_simp; first | done | with_reducible rfl
      try simp only [Act.put, List.setIfInBounds_toArray, List.set_cons_zero, List.set_cons_succ]
      refine rn2 38 40 (by kernel_rfl) rfl (by rfl) ?_ rfl (by rfl) ?_
      ·intro K hK
       go_simp
       refine (HS2.out _ hHeld).mono ?_
       rintro e x20 ⟨v20, rfl, oo, hb⟩
       have O20 := h_ (own_st oo)
       have HB20 := h_ hb.size
       have hB20 := stp hHeld hb
       clear hb oo
       refine hK.out _ _ ?_ (fun hHeld => ?_)
       ·first | exact bz_drew (bz_refl _) | assumption
       clear hK K
       try simp only [Act.put, List.setIfInBounds_toArray, List.set_cons_zero, List.set_cons_succ]
       refine rn 40 (by kernel_rfl) rfl (by rfl) (fun K hK => ?_)
       refine bslice1_wp (.tmp 179) rfl s (congrArg Value.string SX.out) ?_
       intro gb x21 hb sl21
       have S21 := h_ sl21
       have O21 := h_ (own_below' O20.out hb)
       have HB21 := h_ hb.size
       have hB21 := stp hHeld hb
       clear hb sl21
       obtain ⟨v22, x22, hrun, own22, bel22⟩ := push_strs O21.out (Nat.le_trans HB20.out HB21.out) S21.out (by have := PL.out.2; simp; omega) 28
       refine hK.out _ _ ?_ (fun hHeld => ?_)
       ·first | exact bz_drew (bz_refl _) | assumption
       clear hK K
       try simp only [Act.put, List.setIfInBounds_toArray, List.set_cons_zero, List.set_cons_succ]
       refine rn 41 (by kernel_rfl) rfl (by rfl) (fun K hK => ?_)
       refine append_wp (.tmp 178) (.tmp 180) _ _ rfl _ _ _ _ rfl rfl hrun ?_
       have O22 := h_ (Sl.of_own (own_ts own22))
       have hB22 : Below w17.heap.size w17 x22 := hHeld.trans (bel22.mono hB19.size)
       refine hK.out _ _ ?_ (fun hHeld => ?_)
       ·first | exact bz_drew (bz_refl _) | assumption
       clear hK K
       try simp only [Act.put, List.setIfInBounds_toArray, List.set_cons_zero, List.set_cons_succ]
       refine rn 42 (by kernel_rfl) rfl (by rfl) (fun K hK => ?_)
       go_simp
       refine (rsame1_any (P2 ++ [s]) (P2 ++ [s]) _ _ _ _ _ (by rw [<- PA2.out]; exact (Y17.out.s.below hHeld).more hHeld.size) O22.out).mono ?_
       rintro e x23 ⟨he, hb⟩
       rw [decide_eq_true rfl] at he
       subst he
       have hB23 := stp hHeld hb
       clear hb
       refine hK.out _ _ ?_ (fun hHeld => ?_)
       ·first | exact bz_drew (bz_refl _) | assumption
       clear hK K
       try simp only [Act.put, List.setIfInBounds_toArray, List.set_cons_zero, List.set_cons_succ]
       refine tk 43 (v := ?_) rfl (by kernel_rfl) (by kernel_rfl) (by kernel_rfl) (fun _ _ _ h => h) (by rfl) (by assumption) (fun wS hSw => ?_) ?_
       rotate_left
       ·(try dsimp only at hSw); go_simp; first | done | with_reducible rfl
       try simp only [Act.put, List.setIfInBounds_toArray, List.set_cons_zero, List.set_cons_succ]
       refine tk 44 (v := ?_) rfl (by kernel_rfl) (by kernel_rfl) (by kernel_rfl) (fun _ _ _ h => h) (by rfl) (by assumption) (fun wS hSw => ?_) ?_
       rotate_left
       ·(try dsimp only at hSw); go_simp; first | done | with_reducible rfl
       try simp only [Act.put, List.setIfInBounds_toArray, List.set_cons_zero, List.set_cons_succ]
       refine wpAnyH_done (by kernel_rfl) ?_ _
       go_wp2_with fail
       go_ret
       exact ⟨ret1_bool (by simp), Q17.out.b.trans ((by assumption : Below w17.heap.size w17 _).mono Q17.out.b.size)⟩
      ·intro K hK
       refine bslice1_wp (.tmp 179) rfl s (congrArg Value.string SX.out) ?_
       intro gb x20 hb sl20
       have S20 := h_ sl20
       have hB20 := stp hHeld hb
       clear hb sl20
       refine hK.out _ _ ?_ (fun hHeld => ?_)
       ·first | exact bz_drew (bz_refl _) | assumption
       clear hK K
       try simp only [Act.put, List.setIfInBounds_toArray, List.set_cons_zero, List.set_cons_succ]
       refine rn 38 (by kernel_rfl) rfl (by rfl) (fun K hK => ?_)
       go_simp
       refine (HS2.out _ hHeld).mono ?_
       rintro e x21 ⟨v20, rfl, oo, hb⟩
       have O21 := h_ (own_st oo)
       have S21 := h_ ((S20.out.below hb).more hb.size)
       have HB21 := h_ hb.size
       have hB21 := stp hHeld hb
       clear hb oo
       obtain ⟨v22, x22, hrun, own22, bel22⟩ := push_strs O21.out HB21.out S21.out (by have := PL.out.2; simp; omega) 28
       refine hK.out _ _ ?_ (fun hHeld => ?_)
       ·first | exact bz_drew (bz_refl _) | assumption
       clear hK K
       try simp only [Act.put, List.setIfInBounds_toArray, List.set_cons_zero, List.set_cons_succ]
       refine rn 41 (by kernel_rfl) rfl (by rfl) (fun K hK => ?_)
       refine append_wp (.tmp 178) (.tmp 180) _ _ rfl _ _ _ _ rfl rfl hrun ?_
       have O22 := h_ (Sl.of_own (own_ts own22))
       have hB22 : Below w17.heap.size w17 x22 := hHeld.trans (bel22.mono hB20.size)
       refine hK.out _ _ ?_ (fun hHeld => ?_)
       ·first | exact bz_drew (bz_refl _) | assumption
       clear hK K
       try simp only [Act.put, List.setIfInBounds_toArray, List.set_cons_zero, List.set_cons_succ]
       refine rn 42 (by kernel_rfl) rfl (by rfl) (fun K hK => ?_)
       go_simp
       refine (rsame1_any (P2 ++ [s]) (P2 ++ [s]) _ _ _ _ _ (by rw [<- PA2.out]; exact (Y17.out.s.below hHeld).more hHeld.size) O22.out).mono ?_
       rintro e x23 ⟨he, hb⟩
       rw [decide_eq_true rfl] at he
       subst he
       have hB23 := stp hHeld hb
       clear hb
       refine hK.out _ _ ?_ (fun hHeld => ?_)
       ·first | exact bz_drew (bz_refl _) | assumption
       clear hK K
       try simp only [Act.put, List.setIfInBounds_toArray, List.set_cons_zero, List.set_cons_succ]
       refine tk 43 (v := ?_) rfl (by kernel_rfl) (by kernel_rfl) (by kernel_rfl) (fun _ _ _ h => h) (by rfl) (by assumption) (fun wS hSw => ?_) ?_
       rotate_left
       ·(try dsimp only at hSw); go_simp; first | done | with_reducible rfl
       try simp only [Act.put, List.setIfInBounds_toArray, List.set_cons_zero, List.set_cons_succ]
       refine tk 44 (v := ?_) rfl (by kernel_rfl) (by kernel_rfl) (by kernel_rfl) (fun _ _ _ h => h) (by rfl) (by assumption) (fun wS hSw => ?_) ?_
       rotate_left
       ·(try dsimp only at hSw); go_simp; first | done | with_reducible rfl
       try simp only [Act.put, List.setIfInBounds_toArray, List.set_cons_zero, List.set_cons_succ]
       refine wpAnyH_done (by kernel_rfl) ?_ _
       go_wp2_with fail
       go_ret
       exact ⟨ret1_bool (by simp), Q17.out.b.trans ((by assumption : Below w17.heap.size w17 _).mono Q17.out.b.size)⟩
end Go.Proofs.YtpckaimpjccjhaaGreatDoor
