/- The walk of ParseParts, for texts up to 1048576 bytes (written by genP17.py). -/
import Derived.Test.YtpckaimpjccjhaaGreatDoorMLaw17E
import Derived.Test.YtpckaimpjccjhaaGreatDoorGAthW
namespace Go.Proofs.YtpckaimpjccjhaaGreatDoor
open Go.RowKit
set_option maxRecDepth 10000

/-- an address is the same as itself -/
theorem same_self (u : Url) (pu pv : Value) (w : World) (hu : UOk u) (h : Sl w.heap.size w pu (u.path.map S)) (k : Sl w.heap.size w pv (u.path.map S)) :
  Calls Tryz.prog 19 #[.agg (uCells pu u), .agg (uCells pv u)] w fun e w' => e = .returned (.bool true) ∧ Below w.heap.size w w' := by
 refine (same_any u u pu pv w (B := w.heap.size) (C := w.heap.size) hu.six hu.six h k (Nat.le_refl _) (Nat.le_refl _) (by have := hu.bs.1; omega) (by have := hu.bs.1; omega)).mono ?_
 rintro e w' ⟨q, rfl, hq, hb⟩
 rw [hq.mpr rfl]
 exact ⟨rfl, hb⟩
/-- what lies beside the address that is turned -/
structure PP (w0 : World) (g6 g8 g10 : Nat) (bv p1 : Value) (b u1 x : Url) (W : World) : Prop where
 i : OB w0 g10 30 (uCells bv x) W
 k : CB W g6 30 (uCells bv b)
 h : CB W g8 30 (uCells p1 u1)
 sb : Sl g10 W bv (b.path.map S)
 s1 : Sl g10 W p1 (u1.path.map S)
 n6 : g6 ≠ g10
 n8 : g8 ≠ g10
structure PR (g10 g : Nat) (p : Value) (u : Url) (W : World) : Prop where
 c : CB W g 30 (uCells p u)
 o : W.ownsRow (g10 + 1) 9 1 p u.path.length (Strs u.path)
 n : g ≠ g10
section
variable {w0 W W' : World} {g6 g8 g10 g : Nat} {bv p1 p : Value} {b u1 x y u : Url}
theorem PP.below (q : PP w0 g6 g8 g10 bv p1 b u1 x W) (h : Below W.heap.size W W') : PP w0 g6 g8 g10 bv p1 b u1 x W' :=
 ⟨q.i.below h, q.k.keep h, q.h.keep h, q.sb.below (h.mono (Nat.le_of_lt q.i.lt)), q.s1.below (h.mono (Nat.le_of_lt q.i.lt)), q.n6, q.n8⟩
theorem PP.put (q : PP w0 g6 g8 g10 bv p1 b u1 x W) (t : Tn g10 W W') (i : OB w0 g10 30 (uCells bv y) W') : PP w0 g6 g8 g10 bv p1 b u1 y W' :=
 ⟨i, t.cb q.k q.n6, t.cb q.h q.n8, t.sl q.sb (Nat.le_refl _) (Nat.le_of_lt q.i.lt), t.sl q.s1 (Nat.le_refl _) (Nat.le_of_lt q.i.lt), q.n6, q.n8⟩
theorem PP.base (q : PP w0 g6 g8 g10 bv p1 b u1 x W) : Sl W.heap.size W bv (b.path.map S) := q.sb.more (Nat.le_of_lt q.i.lt)
theorem PP.frag (q : PP w0 g6 g8 g10 bv p1 b u1 x W) : Sl W.heap.size W p1 (u1.path.map S) := q.s1.more (Nat.le_of_lt q.i.lt)
theorem PR.below (q : PR g10 g p u W) (h : Below W.heap.size W W') : PR g10 g p u W' := ⟨q.c.keep h, own_below' q.o h, q.n⟩
theorem PR.tn (q : PR g10 g p u W) (t : Tn g10 W W') : PR g10 g p u W' := ⟨t.cb q.c q.n, t.row q.o (Nat.lt_succ_self _), q.n⟩
theorem PR.s (q : PR g10 g p u W) : Sl W.heap.size W p (u.path.map S) := Sl.of_own (own_ts q.o)
end
theorem uok_qf {b u : Url} (h : UOk b) (e1 : u.sch = b.sch) (e2 : u.usr = b.usr) (e3 : u.pas = b.pas) (e4 : u.host = b.host) (e5 : u.port = b.port) (e6 : u.flat = b.flat) (e7 : u.path = b.path) (hq : u.q.length ≤ 1000000) (hf : u.f.length ≤ 1000000) : UOk u :=
 ⟨⟨by rw [e4]; exact h.ok.h, by rw [e5]; exact h.ok.p⟩, ⟨by rw [e1]; exact h.sm.sch, by rw [e2]; exact h.sm.usr, by rw [e3]; exact h.sm.pas, by rw [e4]; exact h.sm.name, by rw [e6]; exact h.sm.flat, by rw [e7]; exact h.sm.path, by omega, by omega⟩, by rw [e7]; exact h.bs⟩
set_option maxHeartbeats 40000000 in
theorem parseParts_walk (t s : ByteArray) (w : World) (_ : t.size ≤ maxLen) (_ : s.size ≤ maxLen) (ub : t.size ≤ 1048576) (_ : s.size ≤ 1048576) (hE : Env w) (hN : NE w) :
  Calls Tryz.prog 4 #[.string t, .string s] w fun e w' => e = .returned (.bool true) ∧ Below w.heap.size w w' := by
 have HSM := Lib.hid (small17_any w hE hN)
 have hba := fun (W : World) (hW : Below w.heap.size w W) => base17_any t W ub (hE.below hW)
 cases hb : readU (ls t) with
 | none =>
  rw [hb] at hba
  have HBA := Lib.hid (show ∀ W, Below w.heap.size w W → Calls Tryz.prog 15 #[.string t] W fun e w' => e = .returned (.tuple #[.agg (uCells nilV U0), .bool false]) ∧ Below W.heap.size W w' from hba)
  clear hba hb hE hN
  go_enter Tryz.func4, Tryz.ntmps4
  go_wp2_with (first
  | (go_at_call 14; refine HSM.out.mono ?_; rintro e w1 ⟨rfl, hb1⟩; have HB1 := Lib.hid hb1; clear hb1)
   | (go_at_call 15; refine (HBA.out _ HB1.out).mono ?_; rintro e w2 ⟨rfl, hb⟩; have HC2 := Lib.hid hb; clear hb)
   | (refine alloc_to rfl 30 rfl _ _ (allUrl _) ?_)
   | (refine storeUrl rfl (.tmp 6) (.tmp 20) rfl nilV U0 rfl rfl rfl rfl rfl ?_; intro w3 _ hb; have HB3 := Lib.hid (stp HB1.out (stp HC2.out hb)); clear hb)
   | fail)
  go_ret
  exact ⟨rfl, HB3.out⟩
 | some b =>
  rw [hb] at hba
  have B8 := Lib.hid (readU_six hb)
  by_cases ht5 : t.size ≤ 500
  case neg =>
   have HBA := Lib.hid (show ∀ W, Below w.heap.size w W → Calls Tryz.prog 15 #[.string t] W fun e w' => ∃ pv, e = .returned (.tuple #[.agg (uCells pv b), .bool false]) ∧ w'.ownsRow W.heap.size 9 1 pv b.path.length (Strs b.path) ∧ Below W.heap.size W w' from fun W hW => by have h := hba W hW; unfold BaseP at h; rw [decide_eq_false ht5] at h; exact h)
   clear hba hb hE hN ht5
   go_enter Tryz.func4, Tryz.ntmps4
   go_wp2_with (first
   | (go_at_call 14; refine HSM.out.mono ?_; rintro e w1 ⟨rfl, hb1⟩; have HB1 := Lib.hid hb1; clear hb1)
   | (go_at_call 15; refine (HBA.out _ HB1.out).mono ?_; rintro e w2 ⟨bv, rfl, oo, hb⟩; have HC2 := Lib.hid hb; have OC2 := Lib.hid (own_base oo HB1.out.size); clear hb oo)
   | (refine alloc_to rfl 30 rfl _ _ (allUrl _) ?_)
    | (refine storeUrl rfl (.tmp 6) (.tmp 20) rfl bv b B8.out (own_one OC2.out) rfl rfl rfl ?_; intro w3 _ hb; have HB3 := Lib.hid (stp HB1.out (stp HC2.out hb)); clear hb)
    | fail)
   go_ret
   exact ⟨rfl, HB3.out⟩
  case pos =>
   have HBA := Lib.hid (show ∀ W, Below w.heap.size w W → Calls Tryz.prog 15 #[.string t] W fun e w' => ∃ pv, e = .returned (.tuple #[.agg (uCells pv b), .bool true]) ∧ w'.ownsRow W.heap.size 9 1 pv b.path.length (Strs b.path) ∧ Below W.heap.size W w' from fun W hW => by have h := hba W hW; unfold BaseP at h; rw [decide_eq_true ht5] at h; exact h)
   clear hba
   by_cases hs5 : s.size ≤ 300
   case neg =>
    have hsi : (300 : Int) < s.size := by omega
    clear hb hE hN ht5 hs5
    go_enter Tryz.func4, Tryz.ntmps4
    go_wp2_with (first
    | (go_at_call 14; refine HSM.out.mono ?_; rintro e w1 ⟨rfl, hb1⟩; have HB1 := Lib.hid hb1; clear hb1)
    | (go_at_call 15; refine (HBA.out _ HB1.out).mono ?_; rintro e w2 ⟨bv, rfl, oo, hb⟩; have HC2 := Lib.hid hb; have OC2 := Lib.hid (own_base oo HB1.out.size); clear hb oo)
    | (refine alloc_to rfl 30 rfl _ _ (allUrl _) ?_)
     | (refine storeUrl rfl (.tmp 6) (.tmp 20) rfl bv b B8.out (own_one OC2.out) rfl rfl rfl ?_; intro w3 _ hb; have HB3 := Lib.hid (stp HB1.out (stp HC2.out hb)); clear hb)
     | fail)
    go_ret
    exact ⟨rfl, HB3.out⟩
   case pos =>
    have hsi : ¬ (300 : Int) < s.size := by omega
    have htl : (ls t).length ≤ 500 := by rw [ls_length]; exact ht5
    have hsl : (ls s).length ≤ 300 := by rw [ls_length]; exact hs5
    have BK := uok_read (by omega) hb
    have G := readU_good hb
    have hbl := ul_readU (L := 500) htl (by omega) hb
    have hj := fun (x : Bytes) (hx : x.length ≤ 1000) (bv : Value) (W : World) (hW : Below w.heap.size w W) (o : Sl W.heap.size W bv (b.path.map S)) => pjoin_any b bv x W BK.six o BK.b (by omega) (hE.below hW)
    obtain ⟨fr, hfr⟩ : ∃ fr, fr = pcB 1 (tightF (ls s) ++ [97]) := ⟨_, rfl⟩
    have htg : (tightF (ls s)).length ≤ 300 := Nat.le_trans (tight_len _) hsl
    have hfrl : fr.length ≤ 1000 := by rw [hfr]; have := pcB_len 1 (tightF (ls s) ++ [97]); simp only [List.length_append, List.length_cons, List.length_nil] at this; omega
    obtain ⟨u1, hu1⟩ : ∃ u1 : Url, u1 = { b with hasF := true, f := fr } := ⟨_, rfl⟩
    obtain ⟨u2, hu2⟩ : ∃ u2 : Url, u2 = { b with hasF := false, f := [] } := ⟨_, rfl⟩
    obtain ⟨u3, hu3⟩ : ∃ u3 : Url, u3 = { b with hasQ := true, q := [97], hasF := true, f := [] } := ⟨_, rfl⟩
    have K1 := Lib.hid (show UOk u1 by rw [hu1]; exact uok_qf BK rfl rfl rfl rfl rfl rfl rfl (by have := hbl.q; show b.q.length ≤ _; omega) (by show fr.length ≤ _; omega))
    have K2 := Lib.hid (show UOk u2 by rw [hu2]; exact uok_qf BK rfl rfl rfl rfl rfl rfl rfl (by have := hbl.q; show b.q.length ≤ _; omega) (Nat.zero_le _))
    have K3 := Lib.hid (show UOk u3 by rw [hu3]; exact uok_qf BK rfl rfl rfl rfl rfl rfl rfl (by show 1 ≤ 1000000; omega) (Nat.zero_le _))
    have P1 := Lib.hid (show u1.path = b.path by rw [hu1])
    have P2 := Lib.hid (show u2.path = b.path by rw [hu2])
    have P3 := Lib.hid (show u3.path = b.path by rw [hu3])
    obtain ⟨x1, hx1⟩ : ∃ x1, (⟨#[35]⟩ : ByteArray) ++ s = x1 := ⟨_, rfl⟩
    obtain ⟨x2, hx2⟩ : ∃ x2, x1 ++ (⟨#[97]⟩ : ByteArray) = x2 := ⟨_, rfl⟩
    have hx2e : x2 = bs (35 :: ls s ++ [97]) := by
     rw [← hx2, ← hx1]
     show ((⟨#[35]⟩ : ByteArray) ++ s) ++ ⟨#[97]⟩ = bs (([35] ++ ls s) ++ [97])
     rw [← bs_app, ← bs_app, bs_ls]
     rfl
    have hx1z : x1.size ≤ 1000 := by rw [← hx1, ByteArray.size_append]; show 1 + s.size ≤ 1000; omega
    have hj1 := hj (35 :: ls s ++ [97]) (by simp only [List.length_append, List.length_cons, List.length_nil]; omega)
    rw [← hx2e, read_frag G, ← hfr, ← hu1] at hj1
    have J1 := Lib.hid (show ∀ bv W, Below w.heap.size w W → Sl W.heap.size W bv (b.path.map S) → Calls Tryz.prog 16 #[.agg (uCells bv b), .string x2] W fun e w' => ∃ pv, e = .returned (.tuple #[.agg (uCells pv u1), .bool true]) ∧ w'.ownsRow W.heap.size 9 1 pv u1.path.length (Strs u1.path) ∧ Below W.heap.size W w' from hj1)
    have hj2 := hj [] (Nat.zero_le _)
    rw [read_none G, ← hu2, show bs [] = (⟨#[]⟩ : ByteArray) from rfl] at hj2
    have hcl : ∀ W, Calls Tryz.prog 18 #[.string x2] W fun e w' => e = .returned (S (cleanF (35 :: ls s ++ [97]))) ∧ Below W.heap.size W w' := fun W => by rw [hx2e]; exact clean_any _ W (by simp only [List.length_append, List.length_cons, List.length_nil]; omega)
    obtain ⟨cb, hcb⟩ : ∃ cb, cb = bs (35 :: (tightF (ls s) ++ [97])) := ⟨_, rfl⟩
    have HCL := Lib.hid (show ∀ W, Calls Tryz.prog 18 #[.string x2] W fun e w' => e = .returned (.string cb) ∧ Below W.heap.size W w' from by rw [hcb, ← clean_frag]; exact hcl)
    obtain ⟨M, hM⟩ : ∃ M, M = cb.size := ⟨_, rfl⟩
    have hMz : cb.size = M := hM.symm
    have hM1 : 1 ≤ M := by rw [hM, hcb, bs_size]; simp
    have hM1i : (1 : Int) ≤ M := by omega
    have hmin : min (M : Int) 1 = 1 := by omega
    obtain ⟨x3, hx3⟩ : ∃ x3, x3 = bs (tightF (ls s) ++ [97]) := ⟨_, rfl⟩
    have hex : cb.extract 1 M = x3 := by rw [hx3, hcb]; exact ext_all _ 1 M (by rw [hM, hcb, bs_size])
    obtain ⟨x4, hx4⟩ : ∃ x4, x4 = bs fr := ⟨_, rfl⟩
    have HEN := Lib.hid (show ∀ W, Calls Tryz.prog 20 #[.string x3, .int .i64 1] W fun e w' => e = .returned (.string x4) ∧ Below W.heap.size W w' from fun W => by rw [hx3, hx4, hfr]; exact pencode_any 1 (tightF (ls s) ++ [97]) W (by simp only [List.length_append, List.length_cons, List.length_nil]; omega))
    have HX4 := Lib.hid hx4
    have HU1 := Lib.hid hu1; have HU2 := Lib.hid hu2; have HU3 := Lib.hid hu3
    cases ho : b.opq with
    | true =>
     rw [ho, if_pos rfl] at hj2
     have J2 := Lib.hid (show ∀ bv W, Below w.heap.size w W → Sl W.heap.size W bv (b.path.map S) → Calls Tryz.prog 16 #[.agg (uCells bv b), .string ⟨#[]⟩] W fun e w' => e = .returned (.tuple #[.agg (uCells nilV U0), .bool false]) ∧ Below W.heap.size W w' from hj2)
     clear hj hj1 hj2 hE hN ht5 hs5 htl hsl BK G hbl htg hfrl hx2e hcl hcb hM hx3 hx4 hu1 hu2 hu3 hfr hb
     go_enter Tryz.func4, Tryz.ntmps4
     go_upto_region 7 with (first
      | (go_at_call 14; refine HSM.out.mono ?_; rintro e w1 ⟨rfl, hb1⟩; have HB1 := Lib.hid hb1; clear hb1)
      | (go_at_call 15; refine (HBA.out _ HB1.out).mono ?_; rintro e w2 ⟨bv, rfl, oo, hb⟩; have HC2 := Lib.hid hb; have OC2 := Lib.hid (own_base oo HB1.out.size); clear hb oo)
      | (refine alloc_to rfl 30 rfl _ _ (allUrl _) ?_)
      | (refine storeUrl rfl (.tmp 6) (.tmp 20) rfl bv b B8.out (own_one OC2.out) rfl rfl rfl ?_; intro w3 hh hb; have HH3 := Lib.hid hh; have HO3 := Lib.hid (own_below' OC2.out hb); have HB3 := Lib.hid (stp HB1.out (stp HC2.out hb)); clear hh hb)
      | (refine loadUrl (by rfl) (.tmp 6) rfl _ bv b B8.out rfl HH3.out ?_)
      | (go_at_call 16; refine (J1.out bv _ HB3.out (Sl.of_own (own_ts HO3.out))).mono ?_; rintro e w4 ⟨p1, rfl, oo, hb⟩; have HC4 := Lib.hid hb; have OC4 := Lib.hid oo; clear hb oo)
      | (refine storeUrl rfl (.tmp 8) (.tmp 36) rfl p1 u1 K1.out.six (own_one OC4.out) rfl rfl rfl ?_; intro w5 hh hb; have H8 := Lib.hid hh; have S8 := Lib.hid (Sl.of_own (own_ts (own_below' OC4.out hb))); have HB5 := Lib.hid (stp HB3.out (stp HC4.out hb)); have HK5 := Lib.hid (HH3.out.keep (stp HC4.out hb)); have SB5 := Lib.hid (Sl.of_own (own_ts (own_below' HO3.out (stp HC4.out hb)))); clear hh hb)
      | (refine loadUrl (by rfl) (.tmp 6) rfl _ bv b B8.out rfl HK5.out ?_)
      | (refine storeUrl rfl (.tmp 10) (.tmp 38) rfl bv b B8.out (own_one HO3.out) rfl rfl rfl ?_; intro w6 hh hb; have Q6 := Lib.hid (show PP w w2.heap.size w4.heap.size w5.heap.size bv p1 b u1 b w6 from ⟨OB.of hh HB5.out.size (stp HB5.out hb), HK5.out.keep hb, H8.out.keep hb, SB5.out.below hb, S8.out.below hb, Nat.ne_of_lt HK5.out.lt, Nat.ne_of_lt H8.out.lt⟩); clear hh hb)
      | fail)
     obtain ⟨g6, hg6⟩ : ∃ g, g = w2.heap.size := ⟨_, rfl⟩
     obtain ⟨g8, hg8⟩ : ∃ g, g = w4.heap.size := ⟨_, rfl⟩
     obtain ⟨g10, hg10⟩ : ∃ g, g = w5.heap.size := ⟨_, rfl⟩
     rw [← hg6, ← hg8, ← hg10] at Q6 ⊢
     clear hg6 hg8 hg10 HH3 HO3 HC4 OC4 H8 S8 HK5 SB5 HB3 HB5 HC2 OC2
     go_upto_region 10 with (first
      | (refine put1t rfl 4 (.tmp 39) (.const (.bool true)) rfl w g10 30 (uCells bv b) Q6.out.i 21 (.bool true) rfl rfl (u_lt B8.out (by decide)) one_info.2.2 rfl (uCells bv { b with hasF := true }) ((uPut bv b B8.out).hasF true) ?_; intro w7 i7 t7; have Q7 := Lib.hid (Q6.out.put t7 i7); clear i7 t7)
      | (go_at_call 18; refine (HCL.out _).mono ?_; rintro e w8 ⟨rfl, hb⟩; have Q8 := Lib.hid (Q7.out.below hb); clear hb)
      | (go_at_call 20; refine (HEN.out _).mono ?_; rintro e w9 ⟨rfl, hb⟩; have Q9 := Lib.hid (Q8.out.below hb); clear hb)
      | (refine put1t rfl 9 (.tmp 50) (.tmp 49) rfl w g10 30 (uCells bv { b with hasF := true }) Q9.out.i 22 (.string x4) rfl rfl (u_lt (u := { b with hasF := true }) B8.out (by decide)) one_info.1 rfl (uCells bv u1) (by rw [HX4.out, HU1.out]; exact (uPut bv { b with hasF := true } B8.out).f fr) ?_; intro w10 i10 t10; have Q10 := Lib.hid (Q9.out.put t10 i10); clear i10 t10)
      | fail)
     clear Q6 Q7 Q8 Q9
     go_upto_region 12 with (first
      | (refine loadUrl (by rfl) (.tmp 8) rfl _ p1 u1 K1.out.six rfl Q10.out.h ?_)
      | (refine loadUrl (by rfl) (.tmp 10) rfl _ bv u1 K1.out.six rfl Q10.out.i.cb ?_)
      | (go_at_call 19; refine (same_self u1 p1 bv _ K1.out Q10.out.frag (by rw [P1.out]; exact Q10.out.base)).mono ?_; rintro e w11 ⟨rfl, hb⟩; have Q11 := Lib.hid (Q10.out.below hb); clear hb)
      | fail)
     clear Q10
     go_upto_region 13 with (first
      | (refine loadUrl (by rfl) (.tmp 6) rfl _ bv b B8.out rfl Q11.out.k ?_)
      | (go_at_call 16; refine (J2.out bv _ Q11.out.i.bel Q11.out.base).mono ?_; rintro e w12 ⟨rfl, hb⟩; have Q12 := Lib.hid (Q11.out.below hb); clear hb)
      | (refine alloc_to rfl 30 rfl _ _ (allUrl _) ?_)
      | (refine storeUrl rfl (.tmp 12) (.tmp 62) rfl nilV U0 rfl rfl rfl rfl rfl ?_; intro w13 _ hb; have Q13 := Lib.hid (Q12.out.below hb); clear hb)
      | fail)
     go_upto_region 15 with (first
      | (refine put1t rfl 4 (.tmp 64) (.const (.bool false)) rfl w g10 30 (uCells bv u1) Q13.out.i 21 (.bool false) rfl rfl (u_lt K1.out.six (by decide)) one_info.2.2 rfl (uCells bv { u1 with hasF := false }) ((uPut bv u1 K1.out.six).hasF false) ?_; intro w14 i14 t14; have Q14 := Lib.hid (Q13.out.put t14 i14); clear i14 t14)
      | (refine put1t rfl 9 (.tmp 65) (.const (.string ⟨#[]⟩)) rfl w g10 30 (uCells bv { u1 with hasF := false }) Q14.out.i 22 (.string ⟨#[]⟩) rfl rfl (u_lt (u := { u1 with hasF := false }) K1.out.six (by decide)) one_info.1 rfl (uCells bv u2) (by rw [HU2.out, HU1.out]; exact (uPut bv { ({ b with hasF := true, f := fr } : Url) with hasF := false } B8.out).f []) ?_; intro w15 i15 t15; have Q15 := Lib.hid (Q14.out.put t15 i15); clear i15 t15)
      | fail)
     have c16 := Q15.out.k.cell_is (uAt bv b B8.out).opq
     rw [ho] at c16
     have HB16 := Lib.hid Q15.out.i.bel
     go_wp2_with (first
      | (refine loadUrl (by rfl) (.tmp 6) rfl _ bv b B8.out rfl Q12.out.k ?_)
      | fail)
     go_ret
     exact ⟨rfl, HB16.out⟩
    | false =>
     rw [ho, if_neg (by simp)] at hj2
     have J2 := Lib.hid (show ∀ bv W, Below w.heap.size w W → Sl W.heap.size W bv (b.path.map S) → Calls Tryz.prog 16 #[.agg (uCells bv b), .string ⟨#[]⟩] W fun e w' => ∃ pv, e = .returned (.tuple #[.agg (uCells pv u2), .bool true]) ∧ w'.ownsRow W.heap.size 9 1 pv u2.path.length (Strs u2.path) ∧ Below W.heap.size W w' from hj2)
     have hj3 := hj [63, 97, 35] (by decide)
     rw [read_query G ho, ← hu3, show bs [63, 97, 35] = (⟨#[63, 97, 35]⟩ : ByteArray) from rfl] at hj3
     have J3 := Lib.hid (show ∀ bv W, Below w.heap.size w W → Sl W.heap.size W bv (b.path.map S) → Calls Tryz.prog 16 #[.agg (uCells bv b), .string ⟨#[63, 97, 35]⟩] W fun e w' => ∃ pv, e = .returned (.tuple #[.agg (uCells pv u3), .bool true]) ∧ w'.ownsRow W.heap.size 9 1 pv u3.path.length (Strs u3.path) ∧ Below W.heap.size W w' from hj3)
     clear hj hj1 hj2 hj3 hE hN ht5 hs5 htl hsl BK G hbl htg hfrl hx2e hcl hcb hM hx3 hx4 hu1 hu2 hu3 hfr hb
     go_enter Tryz.func4, Tryz.ntmps4
     go_upto_region 7 with (first
      | (go_at_call 14; refine HSM.out.mono ?_; rintro e w1 ⟨rfl, hb1⟩; have HB1 := Lib.hid hb1; clear hb1)
      | (go_at_call 15; refine (HBA.out _ HB1.out).mono ?_; rintro e w2 ⟨bv, rfl, oo, hb⟩; have HC2 := Lib.hid hb; have OC2 := Lib.hid (own_base oo HB1.out.size); clear hb oo)
      | (refine alloc_to rfl 30 rfl _ _ (allUrl _) ?_)
      | (refine storeUrl rfl (.tmp 6) (.tmp 20) rfl bv b B8.out (own_one OC2.out) rfl rfl rfl ?_; intro w3 hh hb; have HH3 := Lib.hid hh; have HO3 := Lib.hid (own_below' OC2.out hb); have HB3 := Lib.hid (stp HB1.out (stp HC2.out hb)); clear hh hb)
      | (refine loadUrl (by rfl) (.tmp 6) rfl _ bv b B8.out rfl HH3.out ?_)
      | (go_at_call 16; refine (J1.out bv _ HB3.out (Sl.of_own (own_ts HO3.out))).mono ?_; rintro e w4 ⟨p1, rfl, oo, hb⟩; have HC4 := Lib.hid hb; have OC4 := Lib.hid oo; clear hb oo)
      | (refine storeUrl rfl (.tmp 8) (.tmp 36) rfl p1 u1 K1.out.six (own_one OC4.out) rfl rfl rfl ?_; intro w5 hh hb; have H8 := Lib.hid hh; have S8 := Lib.hid (Sl.of_own (own_ts (own_below' OC4.out hb))); have HB5 := Lib.hid (stp HB3.out (stp HC4.out hb)); have HK5 := Lib.hid (HH3.out.keep (stp HC4.out hb)); have SB5 := Lib.hid (Sl.of_own (own_ts (own_below' HO3.out (stp HC4.out hb)))); clear hh hb)
      | (refine loadUrl (by rfl) (.tmp 6) rfl _ bv b B8.out rfl HK5.out ?_)
      | (refine storeUrl rfl (.tmp 10) (.tmp 38) rfl bv b B8.out (own_one HO3.out) rfl rfl rfl ?_; intro w6 hh hb; have Q6 := Lib.hid (show PP w w2.heap.size w4.heap.size w5.heap.size bv p1 b u1 b w6 from ⟨OB.of hh HB5.out.size (stp HB5.out hb), HK5.out.keep hb, H8.out.keep hb, SB5.out.below hb, S8.out.below hb, Nat.ne_of_lt HK5.out.lt, Nat.ne_of_lt H8.out.lt⟩); clear hh hb)
      | fail)
     obtain ⟨g6, hg6⟩ : ∃ g, g = w2.heap.size := ⟨_, rfl⟩
     obtain ⟨g8, hg8⟩ : ∃ g, g = w4.heap.size := ⟨_, rfl⟩
     obtain ⟨g10, hg10⟩ : ∃ g, g = w5.heap.size := ⟨_, rfl⟩
     rw [← hg6, ← hg8, ← hg10] at Q6 ⊢
     clear hg6 hg8 hg10 HH3 HO3 HC4 OC4 H8 S8 HK5 SB5 HB3 HB5 HC2 OC2
     go_upto_region 10 with (first
      | (refine put1t rfl 4 (.tmp 39) (.const (.bool true)) rfl w g10 30 (uCells bv b) Q6.out.i 21 (.bool true) rfl rfl (u_lt B8.out (by decide)) one_info.2.2 rfl (uCells bv { b with hasF := true }) ((uPut bv b B8.out).hasF true) ?_; intro w7 i7 t7; have Q7 := Lib.hid (Q6.out.put t7 i7); clear i7 t7)
      | (go_at_call 18; refine (HCL.out _).mono ?_; rintro e w8 ⟨rfl, hb⟩; have Q8 := Lib.hid (Q7.out.below hb); clear hb)
      | (go_at_call 20; refine (HEN.out _).mono ?_; rintro e w9 ⟨rfl, hb⟩; have Q9 := Lib.hid (Q8.out.below hb); clear hb)
      | (refine put1t rfl 9 (.tmp 50) (.tmp 49) rfl w g10 30 (uCells bv { b with hasF := true }) Q9.out.i 22 (.string x4) rfl rfl (u_lt (u := { b with hasF := true }) B8.out (by decide)) one_info.1 rfl (uCells bv u1) (by rw [HX4.out, HU1.out]; exact (uPut bv { b with hasF := true } B8.out).f fr) ?_; intro w10 i10 t10; have Q10 := Lib.hid (Q9.out.put t10 i10); clear i10 t10)
      | fail)
     clear Q6 Q7 Q8 Q9
     go_upto_region 12 with (first
      | (refine loadUrl (by rfl) (.tmp 8) rfl _ p1 u1 K1.out.six rfl Q10.out.h ?_)
      | (refine loadUrl (by rfl) (.tmp 10) rfl _ bv u1 K1.out.six rfl Q10.out.i.cb ?_)
      | (go_at_call 19; refine (same_self u1 p1 bv _ K1.out Q10.out.frag (by rw [P1.out]; exact Q10.out.base)).mono ?_; rintro e w11 ⟨rfl, hb⟩; have Q11 := Lib.hid (Q10.out.below hb); clear hb)
      | fail)
     clear Q10
     go_upto_region 13 with (first
      | (refine loadUrl (by rfl) (.tmp 6) rfl _ bv b B8.out rfl Q11.out.k ?_)
      | (go_at_call 16; refine (J2.out bv _ Q11.out.i.bel Q11.out.base).mono ?_; rintro e w12 ⟨p2, rfl, oo, hb⟩; have Q12 := Lib.hid (Q11.out.below hb); have OC12 := Lib.hid (own_base oo (show g10 + 1 ≤ _ from Q11.out.i.lt)); clear hb oo)
      | (refine alloc_to rfl 30 rfl _ _ (allUrl _) ?_)
      | (refine storeUrl rfl (.tmp 12) (.tmp 62) rfl p2 u2 K2.out.six (own_one OC12.out) rfl rfl rfl ?_; intro w13 hh hb; have Q13 := Lib.hid (Q12.out.below hb); have R13 := Lib.hid (show PR g10 w12.heap.size p2 u2 w13 from ⟨hh, own_below' OC12.out hb, Nat.ne_of_gt Q12.out.i.lt⟩); clear hh hb)
      | fail)
     obtain ⟨g12, hg12⟩ : ∃ g, g = w12.heap.size := ⟨_, rfl⟩
     rw [← hg12] at R13 ⊢
     clear hg12 Q11 Q12 OC12
     go_upto_region 15 with (first
      | (refine put1t rfl 4 (.tmp 64) (.const (.bool false)) rfl w g10 30 (uCells bv u1) Q13.out.i 21 (.bool false) rfl rfl (u_lt K1.out.six (by decide)) one_info.2.2 rfl (uCells bv { u1 with hasF := false }) ((uPut bv u1 K1.out.six).hasF false) ?_; intro w14 i14 t14; have Q14 := Lib.hid (Q13.out.put t14 i14); have R14 := Lib.hid (R13.out.tn t14); clear i14 t14)
      | (refine put1t rfl 9 (.tmp 65) (.const (.string ⟨#[]⟩)) rfl w g10 30 (uCells bv { u1 with hasF := false }) Q14.out.i 22 (.string ⟨#[]⟩) rfl rfl (u_lt (u := { u1 with hasF := false }) K1.out.six (by decide)) one_info.1 rfl (uCells bv u2) (by rw [HU2.out, HU1.out]; exact (uPut bv { ({ b with hasF := true, f := fr } : Url) with hasF := false } B8.out).f []) ?_; intro w15 i15 t15; have Q15 := Lib.hid (Q14.out.put t15 i15); have R15 := Lib.hid (R14.out.tn t15); clear i15 t15)
      | fail)
     clear Q13 Q14 R13 R14
     have c16 := Q15.out.k.cell_is (uAt bv b B8.out).opq
     rw [ho] at c16
     go_upto_region 18 with (first
      | (refine loadUrl (by rfl) (.tmp 6) rfl _ bv b B8.out rfl Q15.out.k ?_)
      | (go_at_call 16; refine (J3.out bv _ Q15.out.i.bel Q15.out.base).mono ?_; rintro e w16 ⟨p3, rfl, oo, hb⟩; have Q16 := Lib.hid (Q15.out.below hb); have R16 := Lib.hid (R15.out.below hb); have OC16 := Lib.hid (own_base oo (show g10 + 1 ≤ _ from Q15.out.i.lt)); clear hb oo)
      | (refine alloc_to rfl 30 rfl _ _ (allUrl _) ?_)
      | (refine storeUrl rfl (.tmp 14) (.tmp 76) rfl p3 u3 K3.out.six (own_one OC16.out) rfl rfl rfl ?_; intro w17 hh hb; have Q17 := Lib.hid (Q16.out.below hb); have R17 := Lib.hid (R16.out.below hb); have T17 := Lib.hid (show PR g10 w16.heap.size p3 u3 w17 from ⟨hh, own_below' OC16.out hb, Nat.ne_of_gt Q16.out.i.lt⟩); clear hh hb)
      | fail)
     obtain ⟨g14, hg14⟩ : ∃ g, g = w16.heap.size := ⟨_, rfl⟩
     rw [← hg14] at T17 ⊢
     clear hg14 c16 Q15 Q16 R15 R16 OC16
     go_upto_region 20 with (first
      | (refine loadUrl (by rfl) (.tmp 12) rfl _ p2 u2 K2.out.six rfl R17.out.c ?_)
      | (refine loadUrl (by rfl) (.tmp 10) rfl _ bv u2 K2.out.six rfl Q17.out.i.cb ?_)
      | (go_at_call 19; refine (same_self u2 p2 bv _ K2.out R17.out.s (by rw [P2.out]; exact Q17.out.base)).mono ?_; rintro e w18 ⟨rfl, hb⟩; have Q18 := Lib.hid (Q17.out.below hb); have T18 := Lib.hid (T17.out.below hb); clear hb)
      | fail)
     clear Q17 R17 T17
     go_upto_region 23 with (first
      | (refine put1t rfl 4 (.tmp 86) (.const (.bool true)) rfl w g10 30 (uCells bv u2) Q18.out.i 19 (.bool true) rfl rfl (u_lt K2.out.six (by decide)) one_info.2.2 rfl (uCells bv { u2 with hasQ := true }) ((uPut bv u2 K2.out.six).hasQ true) ?_; intro w19 i19 t19; have Q19 := Lib.hid (Q18.out.put t19 i19); have T19 := Lib.hid (T18.out.tn t19); clear i19 t19)
      | (refine put1t rfl 9 (.tmp 87) (.const (.string ⟨#[97]⟩)) rfl w g10 30 (uCells bv { u2 with hasQ := true }) Q19.out.i 20 (.string ⟨#[97]⟩) rfl rfl (u_lt (u := { u2 with hasQ := true }) K2.out.six (by decide)) one_info.1 rfl (uCells bv { u2 with hasQ := true, q := [97] }) ((uPut bv { u2 with hasQ := true } K2.out.six).q [97]) ?_; intro w20 i20 t20; have Q20 := Lib.hid (Q19.out.put t20 i20); have T20 := Lib.hid (T19.out.tn t20); clear i20 t20)
      | (refine put1t rfl 4 (.tmp 88) (.const (.bool true)) rfl w g10 30 (uCells bv { u2 with hasQ := true, q := [97] }) Q20.out.i 21 (.bool true) rfl rfl (u_lt (u := { u2 with hasQ := true, q := [97] }) K2.out.six (by decide)) one_info.2.2 rfl (uCells bv u3) (by rw [HU3.out, HU2.out]; exact (uPut bv { ({ b with hasF := false, f := [] } : Url) with hasQ := true, q := [97] } B8.out).hasF true) ?_; intro w21 i21 t21; have Q21 := Lib.hid (Q20.out.put t21 i21); have T21 := Lib.hid (T20.out.tn t21); clear i21 t21)
      | fail)
     clear Q18 Q19 Q20 T18 T19 T20
     go_wp2_with (first
      | (refine loadUrl (by rfl) (.tmp 14) rfl _ p3 u3 K3.out.six rfl T21.out.c ?_)
      | (refine loadUrl (by rfl) (.tmp 10) rfl _ bv u3 K3.out.six rfl Q21.out.i.cb ?_)
      | (go_at_call 19; refine (same_self u3 p3 bv _ K3.out T21.out.s (by rw [P3.out]; exact Q21.out.base)).mono ?_; rintro e w22 ⟨rfl, hb⟩; have HB24 := Lib.hid (Q21.out.below hb).i.bel; clear hb)
      | fail)
     go_ret
     exact ⟨ret1_bool (by simp), HB24.out⟩
end Go.Proofs.YtpckaimpjccjhaaGreatDoor
