/- srcset.Split, walked (written by genSrcZ.py). -/
import Derived.Test.YtpckaimpjccjhaaGreatDoorGFloB
set_option maxHeartbeats 40000000
namespace Go.Proofs.YtpckaimpjccjhaaGreatDoor
open Go.RowKit
set_option maxRecDepth 10000
theorem c_all {wv : Value} {c : Cand} (h : wv.oneCell' = true) : (cCells wv c).all (·.oneCell') = true := all_oneCell_toArray (c_one h)
def SpP (l : List Cand) (w : World) : Ending -> World -> Prop := fun e w' => ∃ v, e = .returned v ∧ CRow w' w.heap.size v l ∧ Below w.heap.size w w'
theorem wdsGo_lim : ∀ (k : Nat) (s : Bytes), (wdsGo k s).1.length + (wdsGo k s).2.length <= s.length ∧ ∀ x ∈ (wdsGo k s).1, x.length <= s.length
 | 0, s => ⟨by show 0 + s.length <= _; omega, fun x h => by cases h⟩
 | k + 1, s => by
  have hd := dw_le blE s
  rw [wdsGo]
  split
  ·exact ⟨by show 0 + (s.dropWhile blE).length <= _; omega, fun x h => by cases h⟩
  ·next hz =>
   have hw := wordN_le (s.dropWhile blE) false
   have ih := wdsGo_lim k ((s.dropWhile blE).drop (wordN false (s.dropWhile blE)))
   rw [List.length_drop] at ih
   refine ⟨?_, ?_⟩
   ·simp only [List.length_cons]
    have := ih.1
    omega
   ·intro x hx
    rcases List.mem_cons.mp hx with rfl | hx
    ·rw [List.length_take]; omega
    ·have := ih.2 x hx; omega
theorem wds_lim {s : Bytes} {ws : List Bytes} {rest : Bytes} (h : wdsF s = (ws, rest)) : ws.length <= s.length ∧ ∀ x ∈ ws, x.length <= s.length := by
 have := wdsGo_lim s.length s
 unfold wdsF at h
 rw [h] at this
 exact ⟨by have := this.1; simp only at this; omega, this.2⟩
theorem tw_take (p : UInt8 -> Bool) : ∀ l : Bytes, l.take (l.takeWhile p).length = l.takeWhile p
 | [] => rfl
 | c :: r => by
  cases h : p c with
  | true => rw [List.takeWhile_cons_of_pos h, List.length_cons, List.take_succ_cons, tw_take p r]
  | false => rw [List.takeWhile_cons_of_neg (by rw [h]; simp)]; rfl
theorem desc_nil : descF [] = some C0 := rfl
theorem ssplit19_any (l : Bytes) (w : World) (hl : l.length <= 1024000000) (hE : Env w) : Calls Tryz.prog 30 #[.string (bs l)] w (SpP (srcF l) w) := by
 obtain ⟨N, hN⟩ := ex_ (l.length)
 have HN := h_ hN
 have HE := h_ hE
 obtain ⟨t, ht⟩ := ex_ (bs l)
 have htN : t.size = N := by rw [ht, bs_size, hN]
 rw [<- hN] at hl
 rw [<- ht]
 have HT := h_ ht
 obtain ⟨R, hR⟩ := ex_ (srcF l)
 rw [<- hR]
 have HR := h_ hR
 clear hN hE ht hR
 go_enter Tryz.func30, Tryz.ntmps30
 go_upto_region 2 with fail
 have CB1 := h_ (CB.new w 9 #[.string t])
 have b1 := (Below.refl w.heap.size w).alloc (Nat.le_refl _) (.cells #[.string t] 9)
 obtain ⟨B, hB⟩ := ex_ (w.heap.size)
 obtain ⟨w1, hw1⟩ := ex_ (w.alloc (.cells #[.string t] 9))
 rw [<- hw1] at CB1 b1 ⊢
 rw [<- hB] at CB1 ⊢
 clear hw1
 go_upto_region 3 with fail
 have CA2 := h_ (CB.new w1 3 #[.int .i64 0])
 have b2 := (Below.refl w1.heap.size w1).alloc (Nat.le_refl _) (.cells #[.int .i64 0] 3)
 obtain ⟨A, hA⟩ := ex_ (w1.heap.size)
 obtain ⟨w2, hw2⟩ := ex_ (w1.alloc (.cells #[.int .i64 0] 3))
 rw [<- hw2] at CA2 b2 ⊢
 rw [<- hA] at CA2 ⊢
 clear hw2
 have CB2 := h_ (CB1.out.keep b2)
 have HBE := h_ (b1.trans (b2.mono b1.size))
 have HLT := h_ (show A < w2.heap.size ∧ B < w2.heap.size ∧ w.heap.size <= A ∧ B ≠ A from by
  have h1 := CA2.out.lt
  have h2 := CB2.out.lt
  have h3 := CB1.out.lt
  have h4 := b1.size
  omega)
 clear hA hB b1 b2 CB1
 go_wp2_with fail
 go_loopg [3] (N + 1) (fun gf lv wr => ∃ (j : Nat) (acc : List Cand), j <= N ∧ N - j < gf ∧ acc.length <= j ∧ Hid (R = acc ++ srcF (l.drop j)) ∧ Hid (CRow wr w2.heap.size lv acc) ∧ Hid (CB wr A 3 #[.int .i64 (j : Int)]) ∧ Hid (CB wr B 9 #[.string t]) ∧ Hid (Below w.heap.size w wr) ∧ Hid (w2.heap.size <= wr.heap.size))
 case atStart => exact ⟨0, [], Nat.zero_le _, by omega, Nat.le_refl _, by rw [HR.out]; rfl, CRow.nil _ _, CA2.out, CB2.out, HBE.out, Nat.le_refl _⟩
 case round =>
  obtain ⟨j, acc, hjN, hf, hal, HW, HC, HA, HB, HBL, HSZ⟩ := hrel
  obtain ⟨g', rfl⟩ : ∃ g', gk = g' + 1 := ⟨gk - 1, by omega⟩
  have hll : l.length <= 1024000000 := by rw [<- HN.out]; exact hl
  have hjl : j <= l.length := by rw [<- HN.out]; exact hjN
  have hBb : ∀ W, CB W B 9 #[.string t] -> CB W B 9 #[.string (bs l)] := fun W h => by rw [<- HT.out]; exact h
  have hBt : ∀ W, CB W B 9 #[.string (bs l)] -> CB W B 9 #[.string t] := fun W h => by rw [HT.out]; exact h
  have hs1 := skip_any ask_s2 l j A B false wr hll hjl HA.out (hBb _ HB.out) (fun b h => by cases h) (by simp) (by simp) HLT.out.2.2.2
  rw [askN_tw] at hs1
  obtain ⟨j1, hj1⟩ := ex_ (j + ((l.drop j).takeWhile cblF).length)
  have hj1l : j1 <= l.length := by
   have := tw_len cblF (l.drop j)
   rw [List.length_drop] at this
   omega
  have hd1 : l.drop j1 = (l.drop j).dropWhile cblF := by rw [hj1, <- List.drop_drop, tw_drop]
  rw [<- hj1] at hs1
  have hsr := src_eq (l.drop j)
  rw [<- hd1] at hsr
  have HS1 := h_ hs1
  have hjj : j <= j1 := by omega
  clear hs1 hj1
  go_wp2_with fail
  refine HS1.out.mono ?_
  rintro e w3 ⟨rfl, hA, hB, hF⟩
  have HA3 := h_ hA
  have HB3 := h_ (hBt _ hB)
  have HBL3 := h_ (hF.below HBL.out (fun i h => h.elim (fun e => by have := HLT.out; omega) (fun e => by cases e)) HBL.out.size)
  have HC3 := h_ (HC.out.fk hF (fun g h1 _ h2 => h2.elim (fun e => by have := HLT.out; omega) (fun e => by cases e)))
  have HSZ3 := h_ (Nat.le_trans HSZ.out hF.s)
  clear hA hB hF HS1
  have c1 := HA3.out.cell_is (j := 0) (v := .int .i64 (j1 : Int)) rfl
  have c2 := HB3.out.cell_is (j := 0) (v := .string t) rfl
  by_cases hend : j1 = N
  ·have he : ((j1 : Int) == (N : Int)) = true := by rw [hend]; simp
   have HFIN := h_ (show R = acc by
    rw [HW.out, hsr, if_pos (List.drop_eq_nil_of_le (by rw [<- HN.out, hend]; exact Nat.le_refl _))]
    simp)
   clear hsr hd1 hBb hBt hend
   go_wp2_with fail
   go_ret
   exact ⟨_, rfl, by rw [HFIN.out]; exact HC3.out.base HBE.out.size, HBL3.out⟩
  have he : ((j1 : Int) == (N : Int)) = false := by rw [beq_eq_false_iff_ne]; omega
  have hj1N : j1 < N := by have := HN.out; omega
  have hne : l.drop j1 ≠ [] := fun h => by
   have := congrArg List.length h
   rw [List.length_drop, List.length_nil] at this
   have := HN.out
   omega
  rw [if_neg hne] at hsr
  obtain ⟨x0, r0, hx0, hx1⟩ := dw_head (p := cblF) (s := l.drop j) (by rw [<- hd1]; exact hne)
  rw [<- hd1] at hx0
  obtain ⟨u, hu⟩ := ex_ ((l.drop j1).takeWhile nblF)
  have hu1 : 1 <= u.length := by rw [hu, hx0, List.takeWhile_cons_of_pos (cb_nb hx1), List.length_cons]; omega
  have hul : u.length <= l.length - j1 := by
   have := tw_len nblF (l.drop j1)
   rw [List.length_drop] at this
   rw [hu]; exact this
  obtain ⟨j2, hj2⟩ := ex_ (j1 + u.length)
  have hj2l : j2 <= l.length := by omega
  have hd2 : l.drop j2 = (l.drop j1).dropWhile nblF := by rw [hj2, hu, <- List.drop_drop, tw_drop]
  have hstp : stpF (l.drop j1) = if commaE u = true then ⟨trimC u, [], l.drop j2⟩ else ⟨u, (wdsF (l.drop j2)).1, (wdsF (l.drop j2)).2.drop 1⟩ := by unfold stpF; rw [<- hu, <- hd2]
  rw [hstp] at hsr
  have HS2 := h_ (show Calls Tryz.prog 62 #[.func (.func 65) #[] #[], .pointer (some ⟨A, 0, none⟩), .pointer (some ⟨B, 0, none⟩)] w3 fun e w' =>
    e = .returned (S u) ∧ CB w' A 3 #[.int .i64 (j2 : Int)] ∧ CB w' B 9 #[.string (bs l)] ∧ Fk (SkJ A none) w3 w' from by
   have h := skip_any ask_s3 l j1 A B false w3 hll hj1l HA3.out (hBb _ HB3.out) (fun b h => by cases h) (by simp) (by simp) HLT.out.2.2.2
   rw [askN_tw, <- hu, <- hj2] at h
   have e1 : (l.drop j1).take u.length = u := by rw [hu]; exact tw_take nblF (l.drop j1)
   rw [e1] at h
   exact h)
  have hulm : u.length <= 1024000000 := by omega
  have hsf := fun W => hs_any u W hulm
  have htr := fun W => tr_any u W hulm
  have HDS := h_ (fun W (a : CB W A 3 #[.int .i64 (j2 : Int)]) (b : CB W B 9 #[.string (bs l)]) => describers_any l j2 A B W hll hj2l a b HLT.out.2.2.2)
  obtain ⟨tu, htu⟩ := ex_ (bs u)
  have HTU := h_ (show Value.string tu = S u by rw [htu])
  rw [show S u = Value.string tu by rw [htu]] at HS2
  rw [<- htu] at hsf htr
  have HTR := h_ htr
  have HJ := h_ (show j < j2 ∧ j2 <= N by have := HN.out; omega)
  clear htr hstp hd2 hul hx0 hx1 hu hne hd1 htu hj2 hu1 hulm hend
  go_wp2_with fail
  refine HS2.out.mono ?_
  rintro e w4 ⟨rfl, hA, hB, hF⟩
  have HA4 := h_ hA
  have HB4b := h_ hB
  have HB4 := h_ (hBt _ hB)
  have HBL4 := h_ (hF.below HBL3.out (fun i h => h.elim (fun e => by have := HLT.out; omega) (fun e => by cases e)) HBL3.out.size)
  have HC4 := h_ (HC3.out.fk hF (fun g h1 _ h2 => h2.elim (fun e => by have := HLT.out; omega) (fun e => by cases e)))
  have HSZ4 := h_ (Nat.le_trans HSZ3.out hF.s)
  clear hA hB hF HS2 c1 c2 HC HA HB HBL HSZ HA3 HB3 HBL3 HC3 HSZ3
  cases hcm : commaE u with
  | true =>
   rw [if_pos hcm] at hsr
   rw [hcm] at hsf
   have HSF := h_ hsf
   have HREL := h_ (show R = (acc ++ [{ C0 with url := trimC u }]) ++ srcF (l.drop j2) by
    rw [HW.out, hsr]
    unfold addC
    simp only [desc_nil]
    simp)
   obtain ⟨tx, htx⟩ := ex_ (bs (trimC u))
   have HTX := h_ (show Value.string tx = S (trimC u) by rw [htx])
   rw [show S (trimC u) = Value.string tx by rw [htx]] at HTR
   clear hsf hsr hcm htx HW
   go_wp2_with (first
    | (go_at_call 66; refine (HSF.out _).mono ?_; rintro e w5 ⟨rfl, hw⟩; subst w5)
    | (go_at_call 67; refine (HTR.out _).mono ?_; rintro e w5 ⟨rfl, hb⟩; have HB5 := h_ hb; clear hb)
    | fail)
   have hde := describe_any [] nilV w5 Sl.nil (by simp) (fun x h => by cases h) ((HE.out.below HBL4.out).below HB5.out)
   rw [desc_nil] at hde
   obtain ⟨c, hc⟩ := ex_ (C0)
   rw [<- hc] at hde HREL
   have HDE := h_ (show Calls Tryz.prog 69 #[nilV] w5 fun e w' => ∃ wv, e = .returned (.tuple #[.agg (cCells wv c), .bool true]) ∧ w'.ownsRow w5.heap.size 9 1 wv c.words.length (Strs c.words) ∧ Below w5.heap.size w5 w' from hde)
   clear hde hc
   refine HDE.out.mono ?_
   rintro e w6 ⟨wv, rfl, ho, hb⟩
   have HD6 := h_ (HB5.out.trans (hb.mono HB5.out.size))
   have HO6 := h_ (own_base ho (Nat.le_trans HSZ4.out HB5.out.size))
   clear ho hb
   have HA6 := h_ (HA4.out.keep HD6.out)
   have HB6 := h_ (HB4.out.keep HD6.out)
   have HBL6 := h_ (stp HBL4.out HD6.out)
   have HC6 := h_ (HC4.out.below HD6.out)
   have HSZ6 := h_ (Nat.le_trans HSZ4.out HD6.out.size)
   have hj9 := HJ.out
   have hal9 : acc.length + 1 <= 1099511627776 := by omega
   go_wp2_with (first
    | (refine alloc_to rfl 59 rfl _ _ (allC _) ?_)
    | (refine storeC rfl 59 (.tmp 8) (.tmp 35) rfl (cCells wv c) (cCells nilV C0) c_info rfl (c_all (own_one HO6.out)) rfl rfl rfl ?_; intro w7 i7 hb; have I7 := h_ (show OB w6 w6.heap.size 59 (cCells wv c) w7 from ⟨i7.a, Nat.le_refl _, hb⟩); clear i7 hb)
    | (refine put1t rfl 9 (.tmp 39) (.tmp 38) rfl w6 w6.heap.size 59 (cCells wv c) I7.out 0 (.string tx) rfl rfl (by rw [c_size]; omega) (by kernel_rfl) rfl (cCells wv { c with url := (trimC u) }) (by rw [HTX.out]; rfl) ?_; intro w8 i8 _; have I8 := h_ i8; have HC8 := h_ (HC6.out.below i8.bel); have HO8 := h_ (own_below' HO6.out i8.bel); have LE8 := h_ (Nat.le_trans HSZ6.out i8.bel.size); clear i8)
    | (refine loadCd (by rfl) (.tmp 8) rfl w6.heap.size wv { c with url := (trimC u) } ⟨I8.out.a⟩ rfl ?_)
    | (refine bsliceC rfl (.tmp 41) rfl wv { c with url := (trimC u) } rfl ?_)
    | (at_builtin; (refine pushC rfl (.tmp 40) (.tmp 42) rfl w2.heap.size rfl HC8.out HO8.out rfl hal9 LE8.out ?_); intro v9 w9 hc9 hb9; have HC9 := h_ hc9; have HB9 := h_ hb9; clear hc9 hb9)
    | fail)
   go_roundg g'
   case measure => omega
   case rel =>
    have hlt := HLT.out
    have hsz := HSZ6.out
    have hb8 := I8.out.bel
    exact ⟨j2, acc ++ [({ c with url := (trimC u) } : Cand)], by omega, by omega, by simp; omega, HREL.out, HC9.out, ⟨(HB9.out.block A hlt.1).trans ((hb8.block A (by omega)).trans HA6.out.a)⟩, ⟨(HB9.out.block B hlt.2.1).trans ((hb8.block B (by omega)).trans HB6.out.a)⟩, (HBL6.out.trans (hb8.mono HBL6.out.size)).trans (HB9.out.mono HBE.out.size), Nat.le_trans LE8.out HB9.out.size⟩
  | false =>
   rw [if_neg (by rw [hcm]; simp)] at hsr
   rw [hcm] at hsf
   have HSF := h_ hsf
   obtain ⟨ws, rest, hwd⟩ : ∃ a b, wdsF (l.drop j2) = (a, b) := ⟨_, _, rfl⟩
   rw [hwd] at hsr HDS
   have hwl := wds_lim hwd
   clear hsf hcm
   go_wp2_with (first
    | (go_at_call 66; refine (HSF.out _).mono ?_; rintro e w5 ⟨rfl, hw⟩; subst w5)
    | fail)
   refine (HDS.out _ HA4.out HB4b.out).mono ?_
   rintro e w5 ⟨v5, k', rfl, hk1, hk2, hk3, ho5, hA, hB, hF⟩
   have HA5 := h_ hA
   have HB5 := h_ (hBt _ hB)
   have HBL5 := h_ (hF.below HBL4.out (fun i h => by have := HLT.out; omega) HBL4.out.size)
   have HC5 := h_ (HC4.out.fk hF (fun g h1 _ h2 => by have := HLT.out; omega))
   have HSZ5 := h_ (Nat.le_trans HSZ4.out hF.s)
   have HO5 := h_ ho5
   have HWL := h_ (show ws.length <= 1024000000 ∧ ∀ x ∈ ws, x.length <= 1024000000 from ⟨by have := hwl.1; rw [List.length_drop] at this; omega, fun x hx => by have := hwl.2 x hx; rw [List.length_drop] at this; omega⟩)
   clear hA hB hF ho5 HDS hwl
   have c1 := HA5.out.cell_is (j := 0) (v := .int .i64 (k' : Int)) rfl
   have c2 := HB5.out.cell_is (j := 0) (v := .string t) rfl
   have f1 := HA5.out.frz 0
   change l.drop k' = rest at hk3
   by_cases hkN : k' < N
   case' pos =>
    have hlt : (k' : Int) < (N : Int) := by omega
    obtain ⟨j3, hj3⟩ := ex_ (k' + 1)
    have hw3 : IntKind.i64.wrap ((k' : Int) + 1) = (j3 : Int) := by rw [IntWalk.i64_in _ (by omega)]; omega
    have HR3 := h_ (show l.drop j3 = rest.drop 1 by rw [<- hk3, List.drop_drop, hj3])
    have HJ3 := h_ (show j < j3 ∧ j3 <= N by have := HJ.out; omega)
    clear hk3 hj3
    go_wp2_with fail
    have hF := Fk.set (J := fun x => x = A) HA5.out 0 (.int .i64 (j3 : Int)) rfl
    have hA := HA5.out.set 0 (.int .i64 (j3 : Int))
    obtain ⟨w5b, hw5⟩ := ex_ (w5.setCell ⟨A, 0, none⟩ (.int .i64 (j3 : Int)))
    rw [<- hw5] at hF hA ⊢
    have HA5b := h_ (show CB w5b A 3 #[.int .i64 (j3 : Int)] from hA)
    have HB5b := h_ (hF.cb HB5.out HLT.out.2.2.2)
    have HBL5b := h_ (hF.below HBL5.out (fun i h => by have := HLT.out; omega) HBL5.out.size)
    have HC5b := h_ (HC5.out.fk hF (fun g h1 _ h2 => by have := HLT.out; omega))
    have HSZ5b := h_ (Nat.le_trans HSZ5.out hF.s)
    have HO5b := h_ (hF.row HO5.out (fun g h1 _ _ h2 => by have := HLT.out; have := HSZ4.out; omega))
    clear hF hA hw5 c1 c2 f1
   case' neg =>
    have hlt : ¬ (k' : Int) < (N : Int) := by omega
    obtain ⟨j3, hj3⟩ := ex_ (k')
    have HR3 := h_ (show l.drop j3 = rest.drop 1 by
     have e1 : rest = [] := by rw [<- hk3]; exact List.drop_eq_nil_of_le (by have := HN.out; omega)
     rw [hj3, hk3, e1]; rfl)
    have HJ3 := h_ (show j < j3 ∧ j3 <= N by have := HJ.out; have := HN.out; omega)
    have HA5b := h_ (show CB w5 A 3 #[.int .i64 (j3 : Int)] by rw [hj3]; exact HA5.out)
    clear hk3 hj3
    go_wp2_with fail
    obtain ⟨w5b, hw5⟩ := ex_ (w5)
    rw [<- hw5] at HA5b HB5 HBL5 HC5 HSZ5 HO5 ⊢
    have HB5b := HB5
    have HBL5b := HBL5
    have HC5b := HC5
    have HSZ5b := HSZ5
    have HO5b := HO5
    clear hw5 c1 c2 f1
   all_goals
    have hde := describe_any ws v5 w5b (Sl.of_own (own_ts HO5b.out)) HWL.out.1 HWL.out.2 (HE.out.below HBL5b.out)
    cases hP : descF ws with
    | none =>
     rw [hP] at hde
     have HREL := h_ (show R = acc ++ srcF (l.drop j3) by
      rw [HW.out, hsr]
      unfold addC
      simp only [hP]
      rw [HR3.out])
     have HDE := h_ (show Calls Tryz.prog 69 #[v5] w5b fun e w' => e = .returned (.tuple #[.agg (cCells nilV C0), .bool false]) ∧ Below w5b.heap.size w5b w' from hde)
     clear hde hP hsr
     refine HDE.out.mono ?_
     rintro e w6 ⟨rfl, hb⟩
     have HA6 := h_ (HA5b.out.keep hb)
     have HB6 := h_ (HB5b.out.keep hb)
     have HBL6 := h_ (stp HBL5b.out hb)
     have HC6 := h_ (HC5b.out.below hb)
     have HSZ6 := h_ (Nat.le_trans HSZ5b.out hb.size)
     clear hb
     have hj9 := HJ3.out
     go_wp2_with (first
      | (refine alloc_to rfl 59 rfl _ _ (allC _) ?_)
      | (refine storeC rfl 59 (.tmp 8) (.tmp 35) rfl (cCells nilV C0) (cCells nilV C0) c_info rfl (c_all rfl) rfl rfl rfl ?_; intro w7 i7 hb; have I7 := h_ hb; clear i7 hb)
      | fail)
     go_roundg g'
     case measure => omega
     case rel =>
      have hlt := HLT.out
      have hsz := HSZ6.out
      have hb8 := I7.out
      exact ⟨j3, acc, by omega, by omega, by omega, HREL.out, HC6.out.below hb8, ⟨(hb8.block A (by omega)).trans HA6.out.a⟩, ⟨(hb8.block B (by omega)).trans HB6.out.a⟩, HBL6.out.trans (hb8.mono HBL6.out.size), Nat.le_trans hsz hb8.size⟩
    | some c =>
     rw [hP] at hde
     have HREL := h_ (show R = (acc ++ [{ c with url := u }]) ++ srcF (l.drop j3) by
      rw [HW.out, hsr]
      unfold addC
      simp only [hP]
      rw [HR3.out]
      simp)
     have HDE := h_ (show Calls Tryz.prog 69 #[v5] w5b fun e w' => ∃ wv, e = .returned (.tuple #[.agg (cCells wv c), .bool true]) ∧ w'.ownsRow w5b.heap.size 9 1 wv c.words.length (Strs c.words) ∧ Below w5b.heap.size w5b w' from hde)
     clear hde hP hsr
     refine HDE.out.mono ?_
     rintro e w6 ⟨wv, rfl, ho, hb⟩
     have HA6 := h_ (HA5b.out.keep hb)
     have HB6 := h_ (HB5b.out.keep hb)
     have HBL6 := h_ (stp HBL5b.out hb)
     have HC6 := h_ (HC5b.out.below hb)
     have HSZ6 := h_ (Nat.le_trans HSZ5b.out hb.size)
     have HO6 := h_ (own_base ho HSZ5b.out)
     clear hb ho
     have hj9 := HJ3.out
     have hal9 : acc.length + 1 <= 1099511627776 := by omega
     go_wp2_with (first
      | (refine alloc_to rfl 59 rfl _ _ (allC _) ?_)
      | (refine storeC rfl 59 (.tmp 8) (.tmp 35) rfl (cCells wv c) (cCells nilV C0) c_info rfl (c_all (own_one HO6.out)) rfl rfl rfl ?_; intro w7 i7 hb; have I7 := h_ (show OB w6 w6.heap.size 59 (cCells wv c) w7 from ⟨i7.a, Nat.le_refl _, hb⟩); clear i7 hb)
      | (refine put1t rfl 9 (.tmp 39) (.tmp 38) rfl w6 w6.heap.size 59 (cCells wv c) I7.out 0 (.string tu) rfl rfl (by rw [c_size]; omega) (by kernel_rfl) rfl (cCells wv { c with url := u }) (by rw [HTU.out]; rfl) ?_; intro w8 i8 _; have I8 := h_ i8; have HC8 := h_ (HC6.out.below i8.bel); have HO8 := h_ (own_below' HO6.out i8.bel); have LE8 := h_ (Nat.le_trans HSZ6.out i8.bel.size); clear i8)
      | (refine loadCd (by rfl) (.tmp 8) rfl w6.heap.size wv { c with url := u } ⟨I8.out.a⟩ rfl ?_)
      | (refine bsliceC rfl (.tmp 41) rfl wv { c with url := u } rfl ?_)
      | (at_builtin; (refine pushC rfl (.tmp 40) (.tmp 42) rfl w2.heap.size rfl HC8.out HO8.out rfl hal9 LE8.out ?_); intro v9 w9 hc9 hb9; have HC9 := h_ hc9; have HB9 := h_ hb9; clear hc9 hb9)
      | fail)
     go_roundg g'
     case measure => omega
     case rel =>
      have hlt := HLT.out
      have hsz := HSZ6.out
      have hb8 := I8.out.bel
      exact ⟨j3, acc ++ [({ c with url := u } : Cand)], by omega, by omega, by simp; omega, HREL.out, HC9.out, ⟨(HB9.out.block A hlt.1).trans ((hb8.block A (by omega)).trans HA6.out.a)⟩, ⟨(HB9.out.block B hlt.2.1).trans ((hb8.block B (by omega)).trans HB6.out.a)⟩, (HBL6.out.trans (hb8.mono HBL6.out.size)).trans (HB9.out.mono HBE.out.size), Nat.le_trans LE8.out HB9.out.size⟩
end Go.Proofs.YtpckaimpjccjhaaGreatDoor
