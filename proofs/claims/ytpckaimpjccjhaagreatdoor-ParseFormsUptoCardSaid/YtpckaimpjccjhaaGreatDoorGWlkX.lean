/- WlkX WlkY WlkW WlkZ SmaQ SmaR: joined. -/
import Derived.Test.YtpckaimpjccjhaaGreatDoorGWlkT
import Derived.Test.YtpckaimpjccjhaaGreatDoorGSixF
import Derived.Test.YtpckaimpjccjhaaGreatDoorGWlkH
import Derived.Test.YtpckaimpjccjhaaGreatDoorGUrlB
import Derived.Test.YtpckaimpjccjhaaGreatDoorGAthW
set_option maxHeartbeats 40000000
namespace Go.Proofs.YtpckaimpjccjhaaGreatDoor
open Go.RowKit
set_option maxRecDepth 10000
def ReadP (w : World) : Option Url -> Ending -> World -> Prop
 | none, e, w' => e = .returned (.tuple #[.agg (uCells nilV U0), .bool false]) ∧ Below w.heap.size w w'
 | some u, e, w' => ∃ pv, e = .returned (.tuple #[.agg (uCells pv u), .bool true]) ∧ w'.ownsRow w.heap.size 9 1 pv u.path.length (Strs u.path) ∧ Below w.heap.size w w'
theorem OB.cb {w0 W : World} {b : Nat} {T : TypeId} {cs : Array Value} (i : OB w0 b T cs W) : CB W b T cs := ⟨i.a⟩
theorem OB.tn {w0 W W' : World} {b g : Nat} {T T' : TypeId} {cs cs' : Array Value} (i : OB w0 g T cs W) (t : Tn b W W') (hn : g ≠ b) (j : OB w0 b T' cs' W') : OB w0 g T cs W' := OB.of (t.cb i.cb hn) i.le j.bel
theorem boxes4 (w : World) (bv : Value) (u : Url) (p : Prt) : ∃ w4, (((w.alloc (.cells (uCells bv u) 30)).alloc (.cells (pCells p) 35)).alloc (.cells (uCells nilV U0) 30)).alloc (.cells #[.bool false] 4) = w4 ∧ w4.heap.size = w.heap.size + 4 ∧
  CB w4 w.heap.size 30 (uCells bv u) ∧ CB w4 (w.heap.size + 1) 35 (pCells p) ∧ OB w (w.heap.size + 2) 30 (uCells nilV U0) w4 ∧ OB w (w.heap.size + 3) 4 #[.bool false] w4 := by
 obtain ⟨w3, hw3, hz3, hb, k1, k2, k3⟩ := three w bv u p
 rw [hw3]
 have hx := CB.new w3 4 #[.bool false]
 have hb2 := (Below.refl w3.heap.size w3).alloc (Nat.le_refl _) (.cells #[.bool false] 4)
 refine ⟨_, rfl, by simp [hz3], k1.keep hb2, k2.keep hb2, OB.of (k3.keep hb2) (by omega) (stp hb hb2), ?_⟩
 rw [hz3] at hx
 exact OB.of hx (by omega) (stp hb hb2)
theorem rd_res {tmps : Array Value} {w w2 : World} {b : Nat} {pv : Value} {u : Url} {q : Bool} (h4 : tmps.getD 4 undef = .pointer (some ⟨b, 0, none⟩)) (h5 : tmps.getD 5 undef = .pointer (some ⟨b + 1, 0, none⟩)) (h8 : u.host.six.length = 8) (i : OB w b 30 (uCells pv u) w2) (j : OB w (b + 1) 4 #[.bool q] w2) :
  (results Tryz.f47 tmps).run Tryz.prog w2 = .ok (.tuple #[.agg (uCells pv u), .bool q]) w2 := by
 have h4' : tmps[4]?.getD undef = .pointer (some ⟨b, 0, none⟩) := by simpa using h4
 have h5' : tmps[5]?.getD undef = .pointer (some ⟨b + 1, 0, none⟩) := by simpa using h5
 have hl := i.load (P := Tryz.prog) 30 _ Tryz.underlying30 rfl (by rw [u_size h8]; exact u_info)
 have hc := j.cell_is (j := 0) (v := .bool q) rfl
 have hlb : (loadVar 4 ⟨b + 1, 0, none⟩).run Tryz.prog w2 = .ok (.bool q) w2 := by simp [go_sem, hc]
 simp [results, Tryz.results47, asAddr, h4', h5', hl, hlb]
theorem rcatch_stop (w0 : World) (b : Nat) (u : TypeId) (pv : Value) (older : List PanicEntry) (w : World) (i : OB w0 b 30 (uCells nilV U0) w) (j : OB w0 (b + 1) 4 #[.bool false] w) :
  CallsD Tryz.prog 88 #[.pointer (some ⟨b, 0, none⟩), .pointer (some ⟨b + 1, 0, none⟩)] (.panicking ({ v := .iface u pv, recovered := false } :: older)) w fun e u' w' =>
   e = .returned (.tuple #[]) ∧ u' = .panicking ({ v := .iface u pv, recovered := true } :: older) ∧ OB w0 b 30 (uCells nilV U0) w' ∧ OB w0 (b + 1) 4 #[.bool false] w' := by
 refine callsD_of_wpS Tryz.func88 rfl fun c₀ cs hu => ?_
 apply wpS_seq
 apply wpS_region
 simp [wpOpsS, go_sem, recoverD, hu, Tryz.ntmps88, Exit.thenS]
 refine wpS_cond (t := true) (by simp [Act.eval, Array.replicate]) ?_
 simp only [if_true]
 refine wpS_of_wp ?_
 have I := h_ i; have J := h_ j; clear i j
 go_wp2_with (first
  | (refine build_to rfl 30 #[] rfl (.agg (uCells nilV U0)) #[] rfl bldUrl0 ?_)
  | (refine putU rfl (.tmp 0) (.tmp 4) rfl w0 b I.out nilV U0 rfl rfl rfl rfl ?_; intro w2 i2 t2; have I2 := h_ i2; have J2 := h_ (J.out.tn t2 (Nat.succ_ne_self b) i2); clear i2 t2)
  | (refine put1t rfl 4 (.tmp 1) (.const (.bool false)) rfl w0 (b + 1) 4 #[.bool false] J2.out 0 (.bool false) rfl rfl (by decide) one_info.2.2 rfl #[.bool false] rfl ?_; intro w3 j3 t3; have J3 := h_ j3; have I3 := h_ (I2.out.tn t3 (Nat.ne_of_lt (Nat.lt_succ_self b)) j3); clear j3 t3)
  | fail)
 simp only [bodyPostS]
 exact ⟨trivial, _, rfl, .tuple #[], by simp [results, Tryz.results88], rfl, rfl, I3.out, J3.out⟩
theorem rcatch_idle (p r : Addr) (w : World) :
  CallsD Tryz.prog 88 #[.pointer (some p), .pointer (some r)] .returning w fun e u' w' => e = .returned (.tuple #[]) ∧ u' = .returning ∧ w' = w := by
 refine callsD_of_wpS Tryz.func88 rfl fun c₀ cs hu => ?_
 apply wpS_seq
 apply wpS_region
 simp [wpOpsS, go_sem, recoverD, hu, Tryz.ntmps88, Exit.thenS]
 refine wpS_cond (t := false) (by simp [Act.eval, Array.replicate]) ?_
 simp only [Bool.false_eq_true, if_false]
 refine wpS_of_wp (wp_skip ?_)
 cases c₀
 simp_all [bodyPostS, results, Tryz.results88]
theorem rleave_stop {tmps : Array Value} {w w3 : World} {g : Nat} {ty : TypeId} {x : Value} (h4 : tmps.getD 4 undef = .pointer (some ⟨g, 0, none⟩)) (h5 : tmps.getD 5 undef = .pointer (some ⟨g + 1, 0, none⟩)) (i : OB w g 30 (uCells nilV U0) w3) (j : OB w (g + 1) 4 #[.bool false] w3) {R : Option Url} (hR : R = none) :
  bodyPostD Tryz.prog Tryz.f47 (ReadP w R) (Exit.panic [{ v := .iface ty x, recovered := false }])
   { tmps := tmps, defers := [{ target := .fn (.func 88) #[.pointer (some ⟨g, 0, none⟩), .pointer (some ⟨g + 1, 0, none⟩)], args := #[] }] } w3 := by
 subst hR
 refine leaves_cons (f := 88) (args := #[.pointer (some ⟨g, 0, none⟩), .pointer (some ⟨g + 1, 0, none⟩)]) (by simp) (by simp [go_sem]) ?_
 refine (rcatch_stop w g _ _ [] w3 i j).mono ?_
 rintro e u' w4 ⟨rfl, rfl, i4, j4⟩
 exact ⟨_, rd_res h4 h5 rfl i4 j4, rfl, i4.bel⟩
theorem rleave_ret {tmps : Array Value} {w w3 : World} {g : Nat} {pv : Value} {u : Url} (h4 : tmps.getD 4 undef = .pointer (some ⟨g, 0, none⟩)) (h5 : tmps.getD 5 undef = .pointer (some ⟨g + 1, 0, none⟩)) (h8 : u.host.six.length = 8) (i : OB w g 30 (uCells pv u) w3) (j : OB w (g + 1) 4 #[.bool true] w3) (o : w3.ownsRow w.heap.size 9 1 pv u.path.length (Strs u.path)) {R : Option Url} (hR : R = some u) :
  bodyPostD Tryz.prog Tryz.f47 (ReadP w R) Exit.ret
   { tmps := tmps, defers := [{ target := .fn (.func 88) #[.pointer (some ⟨g, 0, none⟩), .pointer (some ⟨g + 1, 0, none⟩)], args := #[] }] } w3 := by
 subst hR
 refine leaves_cons (f := 88) (args := #[.pointer (some ⟨g, 0, none⟩), .pointer (some ⟨g + 1, 0, none⟩)]) (by simp) (by simp [go_sem]) ?_
 refine (rcatch_idle _ _ w3).mono ?_
 rintro e u' w4 ⟨rfl, rfl, rfl⟩
 exact ⟨_, rd_res h4 h5 h8 i j, _, rfl, o, i.bel⟩
theorem uread_any (bu : Url) (bv : Value) (p : Prt) (w : World) (h8 : bu.host.six.length = 8) (hbv : Sl w.heap.size w bv (bu.path.map S)) (hbs : Bs bu.path) (hr : Rs p.rest) (hq : p.q.length <= 307200000) (hf : p.f.length <= 307200000) (hE : Env w) : Calls Tryz.prog 47 #[.agg (uCells bv bu), .agg (pCells p)] w (ReadP w (joinU bu p)) := by
 have hmf : ∀ (fn : Fn) (first cap : Array Value) (w : World), (Instr.makeFunc fn first cap).run Tryz.prog w = .ok (.func fn first cap) w := fun _ _ _ _ => rfl
 have HJ := h_ (fun W (hb : Below w.heap.size w W) => ujoin_any bu bv p W h8 ((hbv.below hb).more hb.size) hbs hr hq hf (hE.below hb))
 obtain ⟨R, hR⟩ := ex_ (joinU bu p)
 rw [<- hR] at HJ ⊢
 have HU8 := h_ (fun u (h : R = some u) => join_six h8 (hR.symm.trans h))
 have H8 := h_ h8
 clear hR h8 hbv hbs hr hq hf hE
 obtain ⟨w4, hw4, hz4, k1, k2, k3, k4⟩ := boxes4 w bv bu p
 have K1 := h_ k1; have K2 := h_ k2; have K3 := h_ k3; have K4 := h_ k4; have HZ := h_ hz4
 have HW4 := h_ hw4
 clear k1 k2 k3 k4 hz4 hw4
 cases R with
 | none =>
  have HC := h_ (fun W hb => (show Calls Tryz.prog 89 #[.agg (uCells bv bu), .agg (pCells p)] W fun e w' => e = NoN ∧ Below W.heap.size W w' from HJ.out W hb))
  go_enter_defers Tryz.func47, Tryz.ntmps47
  go_upto_region 1 with (first
   | (refine alloc_to rfl 30 rfl _ _ (allUrl _) ?_)
   | fail)
  rw [HW4.out]
  go_wp2_with (first
   | (refine getU rfl (.tmp 2) rfl w w.heap.size bv bu (OB.of K1.out (Nat.le_refl _) K3.out.bel) H8.out rfl ?_)
   | (refine getP rfl (.tmp 3) rfl (w.heap.size + 1) p K2.out rfl ?_)
   | (go_at_call 89; refine (HC.out _ K3.out.bel).mono ?_; rintro e w7 ⟨rfl, hb⟩; have I7 := h_ (K3.out.below hb); have J7 := h_ (K4.out.below hb); clear hb)
   | fail)
  exact rleave_stop rfl rfl I7.out J7.out rfl
 | some u =>
  have U8 := h_ (HU8.out u rfl)
  have HC := h_ (fun W hb => (show Calls Tryz.prog 89 #[.agg (uCells bv bu), .agg (pCells p)] W fun e w' => ∃ pv, e = .returned (.agg (uCells pv u)) ∧ w'.ownsRow W.heap.size 9 1 pv u.path.length (Strs u.path) ∧ Below W.heap.size W w' from HJ.out W hb))
  go_enter_defers Tryz.func47, Tryz.ntmps47
  go_upto_region 1 with (first
   | (refine alloc_to rfl 30 rfl _ _ (allUrl _) ?_)
   | fail)
  rw [HW4.out]
  go_wp2_with (first
   | (refine getU rfl (.tmp 2) rfl w w.heap.size bv bu (OB.of K1.out (Nat.le_refl _) K3.out.bel) H8.out rfl ?_)
   | (refine getP rfl (.tmp 3) rfl (w.heap.size + 1) p K2.out rfl ?_)
   | (go_at_call 89; refine (HC.out _ K3.out.bel).mono ?_; rintro e w7 ⟨pv, rfl, o7, hb⟩; have I7 := h_ (K3.out.below hb); have J7 := h_ (K4.out.below hb); have O7 := h_ o7; clear hb o7)
   | (refine putU rfl (.tmp 4) (.tmp 9) rfl w (w.heap.size + 2) I7.out pv u U8.out (own_one O7.out) rfl rfl ?_; intro w8 i8 t8; have I8 := h_ i8; have J8 := h_ (J7.out.tn t8 (by omega) i8); have O8 := h_ (t8.row O7.out (by rw [HZ.out]; omega)); clear i8 t8)
   | (refine put1t rfl 4 (.tmp 5) (.const (.bool true)) rfl w (w.heap.size + 3) 4 #[.bool false] J8.out 0 (.bool true) rfl rfl (by decide) one_info.2.2 rfl #[.bool true] rfl ?_; intro w9 j9 t9; have J9 := h_ j9; have I9 := h_ (I8.out.tn t9 (by omega) j9); have O9 := h_ (own_base (t9.row O8.out (by rw [HZ.out]; omega)) (show w.heap.size <= w4.heap.size by rw [HZ.out]; omega)); clear j9 t9)
   | fail)
  exact rleave_ret rfl rfl U8.out I9.out J9.out O9.out rfl

theorem clean_len (s : Bytes) : (cleanF s).length <= s.length := Nat.le_trans (tight_len _) (trimF_len _)
theorem split_len (s : Bytes) : (splitF s).rest.length <= s.length ∧ (splitF s).q.length <= s.length ∧ (splitF s).f.length <= s.length := by
 have a := cut1_len 35 s
 have b := cut1_len 63 (cut1 35 s).1
 have c := cut1_len 58 (cut1 63 (cut1 35 s).1).1
 unfold splitF
 dsimp only
 split <;> (dsimp only; omega)
theorem p_all (p : Prt) : (pCells p).all (·.oneCell') = true := all_oneCell_toArray (cs := (pCells p).toList) p_one
theorem ub_res {f : Func} {k m : Nat} (hf : f.results = #[.cell k 30, .tmp m]) {tmps : Array Value} {w0 w2 : World} {b : Nat} {pv : Value} {u : Url} {q : Bool} {Post : Ending -> World -> Prop} (h8 : u.host.six.length = 8) (hk : tmps.getD k undef = .pointer (some ⟨b, 0, none⟩)) (hm : tmps.getD m undef = .bool q)
  (i : OB w0 b 30 (uCells pv u) w2) (hP : Post (.returned (.tuple #[.agg (uCells pv u), .bool q])) w2) :
  bodyPost Tryz.prog f Post Exit.ret { tmps := tmps, defers := [] } w2 := by
 have h2' : tmps[k]?.getD undef = .pointer (some ⟨b, 0, none⟩) := by simpa using hk
 have h3' : tmps[m]?.getD undef = .bool q := by simpa using hm
 have hl := i.load (P := Tryz.prog) 30 _ Tryz.underlying30 rfl (by rw [u_size h8]; exact u_info)
 refine bodyPost_ret (v := .tuple #[.agg (uCells pv u), .bool q]) ?_ rfl hP
 simp [results, hf, asAddr, h2', h3', hl]
theorem uparse_any (s : Bytes) (w : World) (hs : s.length <= 1048576) (hE : Env w) : Calls Tryz.prog 44 #[.string (bs s)] w (ReadP w (readU s)) := by
 have hcl := clean_len s
 obtain ⟨p, hp⟩ := ex_ (splitF (cleanF s))
 have hsl := split_len (cleanF s)
 rw [<- hp] at hsl
 have hJ8 : ∀ u, joinU U0 p = some u -> u.host.six.length = 8 := fun u h => join_six (b := U0) rfl h
 obtain ⟨c, hc⟩ := ex_ (bs (cleanF s))
 have HCL := h_ (show ∀ W, Calls Tryz.prog 18 #[.string (bs s)] W fun e w' => e = .returned (.string c) ∧ Below W.heap.size W w' from fun W => by rw [hc]; exact clean_any s W (by omega))
 have HSP := h_ (show ∀ W, Below w.heap.size w W -> Calls Tryz.prog 17 #[.string c] W fun e w' => e = .returned (.agg (pCells p)) ∧ Below W.heap.size W w' from fun W hb => by rw [hc, hp]; exact split_any (cleanF s) W (by omega) (hE.below hb))
 have HRD := h_ (fun W (hb : Below w.heap.size w W) => uread_any U0 nilV p W rfl Sl.nil ⟨by simp [U0], by simp [U0]⟩ (rs_of (by omega)) (by omega) (by omega) (hE.below hb))
 obtain ⟨R, hR⟩ := ex_ (readU s)
 rw [<- hR]
 unfold readU at hR
 rw [<- hp] at hR
 obtain ⟨z, hz⟩ := ex_ (bs s)
 rw [<- hz] at HCL ⊢
 have HR := h_ hR
 have HJ8 := h_ hJ8
 clear hR hz hc hp hsl hcl hs hE hJ8
 go_enter Tryz.func44, Tryz.ntmps44
 go_upto_region 1 with (first
  | (refine alloc_to rfl 30 rfl _ _ (allUrl _) ?_)
  | fail)
 have IA := h_ (OB.fresh w 30 (uCells nilV U0))
 obtain ⟨w1, hw1⟩ := ex_ (w.alloc (.cells (uCells nilV U0) 30))
 rw [<- hw1] at IA ⊢
 clear hw1
 go_upto_region 2 with (first
  | (go_at_call 18; refine (HCL.out _).mono ?_; rintro e w2 ⟨rfl, hb⟩; have I2 := h_ (IA.out.below hb); clear hb)
  | (go_at_call 17; refine (HSP.out _ I2.out.bel).mono ?_; rintro e w3 ⟨rfl, hb⟩; have I3 := h_ (I2.out.below hb); clear hb)
  | (refine alloc_to rfl 35 rfl _ _ (allP _) ?_)
  | (refine storeC rfl 35 (.tmp 4) (.tmp 7) rfl (pCells p) (pCells P0) p_info rfl (p_all p) rfl rfl rfl ?_; intro w4 h4 hb; have X4 := h_ h4; have I4 := h_ (I3.out.below hb); clear h4 hb)
  | fail)
 have d0 := X4.out.cell_is (j := 0) (v := .bool p.hasS) rfl
 cases hS : p.hasS with
 | false =>
  rw [hS] at d0
  have HRA := h_ (show R = none by rw [HR.out, if_neg (by simp [hS])])
  clear hS
  go_wp2_with (first
   | (refine build_to rfl 30 #[] rfl (.agg (uCells nilV U0)) #[] rfl bldUrl0 ?_)
   | (refine putU rfl (.tmp 2) (.tmp 11) rfl w w.heap.size I4.out nilV U0 rfl rfl rfl rfl ?_; intro w5 i5 _; have I5 := h_ i5; clear i5)
   | fail)
  rw [HRA.out]
  exact ub_res (u := U0) (q := false) Tryz.results44 rfl rfl rfl I5.out ⟨rfl, I5.out.bel⟩
 | true =>
  rw [hS] at d0
  have HRB := h_ (show R = joinU U0 p by rw [HR.out, if_pos hS])
  clear hS
  cases hJ : joinU U0 p with
  | none =>
   have HRA := h_ (show R = none by rw [HRB.out, hJ])
   have HRC := h_ (fun W hb => (show Calls Tryz.prog 47 #[.agg (uCells nilV U0), .agg (pCells p)] W fun e w' => e = .returned (.tuple #[.agg (uCells nilV U0), .bool false]) ∧ Below W.heap.size W w' from by have h := HRD.out W hb; rw [hJ] at h; exact h))
   clear hJ
   go_wp2_with (first
    | (refine build_to rfl 30 #[] rfl (.agg (uCells nilV U0)) #[] rfl bldUrl0 ?_)
    | (refine getP rfl (.tmp 4) rfl w3.heap.size p X4.out rfl ?_)
    | (go_at_call 47; refine (HRC.out _ I4.out.bel).mono ?_; rintro e w5 ⟨rfl, hb⟩; have I5 := h_ (I4.out.below hb); clear hb)
    | (refine putU rfl (.tmp 2) (.tmp 15) rfl w w.heap.size I5.out nilV U0 rfl rfl rfl rfl ?_; intro w6 i6 _; have I6 := h_ i6; clear i6)
    | fail)
   rw [HRA.out]
   exact ub_res (u := U0) (q := false) Tryz.results44 rfl rfl rfl I6.out ⟨rfl, I6.out.bel⟩
  | some u =>
   have HRA := h_ (show R = some u by rw [HRB.out, hJ])
   have U8 := h_ (HJ8.out u hJ)
   have HRC := h_ (fun W hb => (show Calls Tryz.prog 47 #[.agg (uCells nilV U0), .agg (pCells p)] W fun e w' => ∃ pv, e = .returned (.tuple #[.agg (uCells pv u), .bool true]) ∧ w'.ownsRow W.heap.size 9 1 pv u.path.length (Strs u.path) ∧ Below W.heap.size W w' from by have h := HRD.out W hb; rw [hJ] at h; exact h))
   clear hJ
   go_wp2_with (first
    | (refine build_to rfl 30 #[] rfl (.agg (uCells nilV U0)) #[] rfl bldUrl0 ?_)
    | (refine getP rfl (.tmp 4) rfl w3.heap.size p X4.out rfl ?_)
    | (go_at_call 47; refine (HRC.out _ I4.out.bel).mono ?_; rintro e w5 ⟨pv, rfl, o5, hb⟩; have I5 := h_ (I4.out.below hb); have O5 := h_ (own_base o5 (show w.heap.size + 1 <= _ from I4.out.lt)); clear hb o5)
    | (refine putU rfl (.tmp 2) (.tmp 15) rfl w w.heap.size I5.out pv u U8.out (own_one O5.out) rfl rfl ?_; intro w6 i6 t6; have I6 := h_ i6; have O6 := h_ (own_base (t6.row O5.out (Nat.lt_succ_self _)) (Nat.le_succ _)); clear i6 t6)
    | fail)
   rw [HRA.out]
   exact ub_res (u := u) (q := true) Tryz.results44 U8.out rfl rfl I6.out ⟨pv, rfl, O6.out, I6.out.bel⟩
theorem two_j (w : World) (bv : Value) (u : Url) : ∃ W, (w.alloc (.cells (uCells bv u) 30)).alloc (.cells (uCells nilV U0) 30) = W ∧ CB W w.heap.size 30 (uCells bv u) ∧ OB w (w.heap.size + 1) 30 (uCells nilV U0) W := by
 have hx := CB.new w 30 (uCells bv u)
 have hb := (Below.refl w.heap.size w).alloc (Nat.le_refl _) (.cells (uCells bv u) 30)
 obtain ⟨w1, hw1⟩ := ex_ (w.alloc (.cells (uCells bv u) 30))
 have hz1 : w1.heap.size = w.heap.size + 1 := by rw [hw1]; simp
 rw [<- hw1] at hx hb ⊢
 have hy := CB.new w1 30 (uCells nilV U0)
 have hb2 := (Below.refl w1.heap.size w1).alloc (Nat.le_refl _) (.cells (uCells nilV U0) 30)
 rw [hz1] at hy
 exact ⟨_, rfl, hx.keep hb2, OB.of hy (Nat.le_succ _) (stp hb hb2)⟩
theorem pjoin_any (bu : Url) (bv : Value) (s : Bytes) (w : World) (h8 : bu.host.six.length = 8) (hbv : Sl w.heap.size w bv (bu.path.map S)) (hbs : Bs bu.path) (hs : s.length <= 1048576) (hE : Env w) : Calls Tryz.prog 16 #[.agg (uCells bv bu), .string (bs s)] w (ReadP w (readJ bu s)) := by
 have hcl := clean_len s
 obtain ⟨p, hp⟩ := ex_ (splitF (cleanF s))
 have hsl := split_len (cleanF s)
 rw [<- hp] at hsl
 have HJ8 := h_ (fun u (h : joinU bu p = some u) => join_six h8 h)
 obtain ⟨c, hc⟩ := ex_ (bs (cleanF s))
 have HCL := h_ (show ∀ W, Calls Tryz.prog 18 #[.string (bs s)] W fun e w' => e = .returned (.string c) ∧ Below W.heap.size W w' from fun W => by rw [hc]; exact clean_any s W (by omega))
 have HSP := h_ (show ∀ W, Below w.heap.size w W -> Calls Tryz.prog 17 #[.string c] W fun e w' => e = .returned (.agg (pCells p)) ∧ Below W.heap.size W w' from fun W hb => by rw [hc, hp]; exact split_any (cleanF s) W (by omega) (hE.below hb))
 have HRD := h_ (fun W (hb : Below w.heap.size w W) => uread_any bu bv p W h8 ((hbv.below hb).more hb.size) hbs (rs_of (by omega)) (by omega) (by omega) (hE.below hb))
 have H8 := h_ h8
 show Calls _ _ _ _ (ReadP w (joinU bu (splitF (cleanF s))))
 rw [<- hp]
 obtain ⟨z, hz⟩ := ex_ (bs s)
 rw [<- hz] at HCL ⊢
 clear hz hc hp hsl hcl hs hE h8 hbv hbs
 obtain ⟨W2, hw2, k1, k2⟩ := two_j w bv bu
 have K1 := h_ k1; have K2 := h_ k2; have HW2 := h_ hw2
 clear k1 k2 hw2
 have HUI := h_ (show (Tryz.prog.info? 30).map (·.size) = some (uCells bv bu).size by rw [u_size H8.out]; exact u_info)
 cases hJ : joinU bu p with
 | none =>
  have HRC := h_ (fun W hb => (show Calls Tryz.prog 47 #[.agg (uCells bv bu), .agg (pCells p)] W fun e w' => e = .returned (.tuple #[.agg (uCells nilV U0), .bool false]) ∧ Below W.heap.size W w' from by have h := HRD.out W hb; rw [hJ] at h; exact h))
  clear hJ
  go_enter Tryz.func16, Tryz.ntmps16
  go_upto_region 1 with (first
   | (refine alloc_to rfl 30 rfl _ _ (allUrl _) ?_)
   | fail)
  rw [HW2.out]
  have C1 := h_ (K1.out.keep (bz_drew (bz_refl _)))
  have I1 := h_ (K2.out.below (bz_drew (bz_refl _)))
  refine wp_region_held_drew (S := fun W => CB W w.heap.size 30 (uCells bv bu)) (by kernel_rfl) (by with_reducible first | exact C5.out | exact C4.out | exact C3.out | exact C2.out | exact C1.out) (fun hHeld => ?_)
  refine tk 0 (v := ?_) rfl (by kernel_rfl) (by kernel_rfl) (by kernel_rfl) (fun _ _ _ h => h) (by rfl) (by assumption) (fun wS hSw => ?_) ?_
  rotate_left
  ·(try dsimp only at hSw)
   refine loadC_exec 30 (.tmp 2) ?_ w.heap.size (uCells bv bu) _ Tryz.underlying30 rfl HUI.out ?_ ?_
   ·rfl
   ·rfl
   ·exact hSw
  try simp only [Act.put, List.setIfInBounds_toArray, List.set_cons_zero, List.set_cons_succ]
  refine tk 1 (v := ?_) rfl (by kernel_rfl) (by kernel_rfl) (by kernel_rfl) (fun _ _ _ h => h) (by rfl) (by assumption) (fun wS hSw => ?_) ?_
  rotate_left
  ·(try dsimp only at hSw); go_simp; first | done | with_reducible rfl
  try simp only [Act.put, List.setIfInBounds_toArray, List.set_cons_zero, List.set_cons_succ]
  refine rn 2 (by kernel_rfl) rfl (by rfl) (fun K hK => ?_)
  go_simp
  refine (HCL.out _).mono ?_
  rintro e w2 ⟨rfl, hb⟩
  have C2 := h_ (C1.out.keep hb); have I2 := h_ (I1.out.below hb)
  clear hb
  refine hK.out _ _ ?_ (fun hHeld => ?_)
  ·with_reducible first | exact C5.out | exact C4.out | exact C3.out | exact C2.out | exact C1.out
  clear hK K
  try simp only [Act.put, List.setIfInBounds_toArray, List.set_cons_zero, List.set_cons_succ]
  refine rn 3 (by kernel_rfl) rfl (by rfl) (fun K hK => ?_)
  go_simp
  refine (HSP.out _ I2.out.bel).mono ?_
  rintro e w3 ⟨rfl, hb⟩
  have C3 := h_ (C2.out.keep hb); have I3 := h_ (I2.out.below hb)
  clear hb
  refine hK.out _ _ ?_ (fun hHeld => ?_)
  ·with_reducible first | exact C5.out | exact C4.out | exact C3.out | exact C2.out | exact C1.out
  clear hK K
  try simp only [Act.put, List.setIfInBounds_toArray, List.set_cons_zero, List.set_cons_succ]
  refine rn 4 (by kernel_rfl) rfl (by rfl) (fun K hK => ?_)
  go_simp
  refine (HRC.out _ I3.out.bel).mono ?_
  rintro e w4 ⟨rfl, hb⟩
  have C4 := h_ (C3.out.keep hb); have I4 := h_ (I3.out.below hb)
  clear hb
  refine hK.out _ _ ?_ (fun hHeld => ?_)
  ·with_reducible first | exact C5.out | exact C4.out | exact C3.out | exact C2.out | exact C1.out
  clear hK K
  try simp only [Act.put, List.setIfInBounds_toArray, List.set_cons_zero, List.set_cons_succ]
  refine tk 5 (v := ?_) rfl (by kernel_rfl) (by kernel_rfl) (by kernel_rfl) (fun _ _ _ h => h) (by rfl) (by assumption) (fun wS hSw => ?_) ?_
  rotate_left
  ·(try dsimp only at hSw); go_simp; first | done | with_reducible rfl
  try simp only [Act.put, List.setIfInBounds_toArray, List.set_cons_zero, List.set_cons_succ]
  refine tk 6 (v := ?_) rfl (by kernel_rfl) (by kernel_rfl) (by kernel_rfl) (fun _ _ _ h => h) (by rfl) (by assumption) (fun wS hSw => ?_) ?_
  rotate_left
  ·(try dsimp only at hSw); go_simp; first | done | with_reducible rfl
  try simp only [Act.put, List.setIfInBounds_toArray, List.set_cons_zero, List.set_cons_succ]
  refine rn 7 (by kernel_rfl) rfl (by rfl) (fun K hK => ?_)
  refine putN_wp 30 (.tmp 4) (.tmp 11) rfl w (w.heap.size + 1) 30 (uCells nilV U0) I4.out 0 (urlCells nilV U0) rfl rfl (Nat.le_refl _) u_info (u_one rfl) (uCells nilV U0) (u_whole rfl rfl) ?_
  intro w5 i5 t5
  have I5 := h_ i5; have C5 := h_ (t5.cb C4.out (Nat.ne_of_lt (Nat.lt_succ_self _)))
  clear i5 t5
  refine hK.out _ _ ?_ (fun hHeld => ?_)
  ·with_reducible first | exact C5.out | exact C4.out | exact C3.out | exact C2.out | exact C1.out
  clear hK K
  try simp only [Act.put]
  refine tk 8 (v := ?_) rfl (by kernel_rfl) (by kernel_rfl) (by kernel_rfl) (fun _ _ _ h => h) (by rfl) (by assumption) (fun wS hSw => ?_) ?_
  rotate_left
  ·(try dsimp only at hSw); go_simp; first | done | with_reducible rfl
  try simp only [Act.put, List.setIfInBounds_toArray, List.set_cons_zero, List.set_cons_succ]
  refine wpAnyH_done (by kernel_rfl) ?_ _
  go_wp2_with fail
  exact ub_res (u := U0) (q := false) Tryz.results16 rfl rfl rfl I5.out ⟨rfl, I5.out.bel⟩
 | some u =>
  have U8 := h_ (HJ8.out u hJ)
  have HRC := h_ (fun W hb => (show Calls Tryz.prog 47 #[.agg (uCells bv bu), .agg (pCells p)] W fun e w' => ∃ pv, e = .returned (.tuple #[.agg (uCells pv u), .bool true]) ∧ w'.ownsRow W.heap.size 9 1 pv u.path.length (Strs u.path) ∧ Below W.heap.size W w' from by have h := HRD.out W hb; rw [hJ] at h; exact h))
  clear hJ
  go_enter Tryz.func16, Tryz.ntmps16
  go_upto_region 1 with (first
   | (refine alloc_to rfl 30 rfl _ _ (allUrl _) ?_)
   | fail)
  rw [HW2.out]
  have C1 := h_ (K1.out.keep (bz_drew (bz_refl _)))
  have I1 := h_ (K2.out.below (bz_drew (bz_refl _)))
  refine wp_region_held_drew (S := fun W => CB W w.heap.size 30 (uCells bv bu)) (by kernel_rfl) (by with_reducible first | exact C5.out | exact C4.out | exact C3.out | exact C2.out | exact C1.out) (fun hHeld => ?_)
  refine tk 0 (v := ?_) rfl (by kernel_rfl) (by kernel_rfl) (by kernel_rfl) (fun _ _ _ h => h) (by rfl) (by assumption) (fun wS hSw => ?_) ?_
  rotate_left
  ·(try dsimp only at hSw)
   refine loadC_exec 30 (.tmp 2) ?_ w.heap.size (uCells bv bu) _ Tryz.underlying30 rfl HUI.out ?_ ?_
   ·rfl
   ·rfl
   ·exact hSw
  try simp only [Act.put, List.setIfInBounds_toArray, List.set_cons_zero, List.set_cons_succ]
  refine tk 1 (v := ?_) rfl (by kernel_rfl) (by kernel_rfl) (by kernel_rfl) (fun _ _ _ h => h) (by rfl) (by assumption) (fun wS hSw => ?_) ?_
  rotate_left
  ·(try dsimp only at hSw); go_simp; first | done | with_reducible rfl
  try simp only [Act.put, List.setIfInBounds_toArray, List.set_cons_zero, List.set_cons_succ]
  refine rn 2 (by kernel_rfl) rfl (by rfl) (fun K hK => ?_)
  go_simp
  refine (HCL.out _).mono ?_
  rintro e w2 ⟨rfl, hb⟩
  have C2 := h_ (C1.out.keep hb); have I2 := h_ (I1.out.below hb)
  clear hb
  refine hK.out _ _ ?_ (fun hHeld => ?_)
  ·with_reducible first | exact C5.out | exact C4.out | exact C3.out | exact C2.out | exact C1.out
  clear hK K
  try simp only [Act.put, List.setIfInBounds_toArray, List.set_cons_zero, List.set_cons_succ]
  refine rn 3 (by kernel_rfl) rfl (by rfl) (fun K hK => ?_)
  go_simp
  refine (HSP.out _ I2.out.bel).mono ?_
  rintro e w3 ⟨rfl, hb⟩
  have C3 := h_ (C2.out.keep hb); have I3 := h_ (I2.out.below hb)
  clear hb
  refine hK.out _ _ ?_ (fun hHeld => ?_)
  ·with_reducible first | exact C5.out | exact C4.out | exact C3.out | exact C2.out | exact C1.out
  clear hK K
  try simp only [Act.put, List.setIfInBounds_toArray, List.set_cons_zero, List.set_cons_succ]
  refine rn 4 (by kernel_rfl) rfl (by rfl) (fun K hK => ?_)
  go_simp
  refine (HRC.out _ I3.out.bel).mono ?_
  rintro e w4 ⟨pv, rfl, o4, hb⟩
  have C4 := h_ (C3.out.keep hb); have I4 := h_ (I3.out.below hb); have O4 := h_ (own_base o4 (show w.heap.size + 2 <= _ from I3.out.lt)); clear o4
  clear hb
  refine hK.out _ _ ?_ (fun hHeld => ?_)
  ·with_reducible first | exact C5.out | exact C4.out | exact C3.out | exact C2.out | exact C1.out
  clear hK K
  try simp only [Act.put, List.setIfInBounds_toArray, List.set_cons_zero, List.set_cons_succ]
  refine tk 5 (v := ?_) rfl (by kernel_rfl) (by kernel_rfl) (by kernel_rfl) (fun _ _ _ h => h) (by rfl) (by assumption) (fun wS hSw => ?_) ?_
  rotate_left
  ·(try dsimp only at hSw); go_simp; first | done | with_reducible rfl
  try simp only [Act.put, List.setIfInBounds_toArray, List.set_cons_zero, List.set_cons_succ]
  refine tk 6 (v := ?_) rfl (by kernel_rfl) (by kernel_rfl) (by kernel_rfl) (fun _ _ _ h => h) (by rfl) (by assumption) (fun wS hSw => ?_) ?_
  rotate_left
  ·(try dsimp only at hSw); go_simp; first | done | with_reducible rfl
  try simp only [Act.put, List.setIfInBounds_toArray, List.set_cons_zero, List.set_cons_succ]
  refine rn 7 (by kernel_rfl) rfl (by rfl) (fun K hK => ?_)
  refine putN_wp 30 (.tmp 4) (.tmp 11) rfl w (w.heap.size + 1) 30 (uCells nilV U0) I4.out 0 (urlCells pv u) rfl rfl (by rw [u_len U8.out]; exact Nat.le_of_eq rfl) (by rw [u_len U8.out]; exact u_info) (u_one (own_one O4.out)) (uCells pv u) (u_whole rfl U8.out) ?_
  intro w5 i5 t5
  have I5 := h_ i5; have O5 := h_ (own_base (t5.row O4.out (Nat.lt_succ_self _)) (Nat.le_add_right _ 2)); have C5 := h_ (t5.cb C4.out (Nat.ne_of_lt (Nat.lt_succ_self _)))
  clear i5 t5
  refine hK.out _ _ ?_ (fun hHeld => ?_)
  ·with_reducible first | exact C5.out | exact C4.out | exact C3.out | exact C2.out | exact C1.out
  clear hK K
  try simp only [Act.put]
  refine tk 8 (v := ?_) rfl (by kernel_rfl) (by kernel_rfl) (by kernel_rfl) (fun _ _ _ h => h) (by rfl) (by assumption) (fun wS hSw => ?_) ?_
  rotate_left
  ·(try dsimp only at hSw); go_simp; first | done | with_reducible rfl
  try simp only [Act.put, List.setIfInBounds_toArray, List.set_cons_zero, List.set_cons_succ]
  refine wpAnyH_done (by kernel_rfl) ?_ _
  go_wp2_with fail
  exact ub_res (u := u) (q := true) Tryz.results16 U8.out rfl rfl I5.out ⟨pv, rfl, O5.out, I5.out.bel⟩

theorem six_cmp (a b c d e g i j a' b' c' d' e' g' i' j' : Int) (D : Nat) (w : World) : (Op.equalIn (D + 2) 25 (.agg #[.int .u16 a, .int .u16 b, .int .u16 c, .int .u16 d, .int .u16 e, .int .u16 g, .int .u16 i, .int .u16 j]) (.agg #[.int .u16 a', .int .u16 b', .int .u16 c', .int .u16 d', .int .u16 e', .int .u16 g', .int .u16 i', .int .u16 j'])).run Tryz.prog w = .ok (decide ([a, b, c, d, e, g, i, j] = [a', b', c', d', e', g', i', j'])) w := by
 have hu := Tryz.underlying24
 obtain ⟨i8, hi8, hz⟩ : ∃ i, Tryz.prog.info? 24 = some i ∧ i.size = 1 := ⟨_, rfl, by kernel_rfl⟩
 have hc : Tryz.prog.cellsOf 24 = 1 := by kernel_rfl
 rw [run_equalIn_array w (D + 1) _ _ Tryz.underlying25 hi8, hc, show List.range 8 = [0, 1, 2, 3, 4, 5, 6, 7] from rfl]
 simp only [Op.eqItems]
 clear hc hz hi8
 go_simp
 repeat' split
 all_goals simp_all
theorem hst_cmp (h h' : Hst) (hl : h.six.length = 8) (hl' : h'.six.length = 8) (w : World) (q : Bool) (hq : q = true ↔ h = h') : (binOp .eql 27 (.agg (hCells h)) (.agg (hCells h'))).run Tryz.prog w = .ok (.bool q) w := by
 obtain ⟨k, n, f, six⟩ := h
 obtain ⟨k', n', f', six'⟩ := h'
 simp only at hl hl'
 obtain ⟨a, b, c, d, e, g, i, j, rfl⟩ := eight hl
 obtain ⟨a', b', c', d', e', g', i', j', rfl⟩ := eight hl'
 have hS : Tryz.prog.underlying 27 = some (.struct (Tryz.prog.fieldsOf 27)) := by kernel_rfl
 have hp : Tryz.prog.stoodInHeld 27 = false := by kernel_rfl
 have hc : hCells ⟨k, n, f, [a, b, c, d, e, g, i, j]⟩ = #[.int .i64 k, .string (bs n), .int .u32 f, .int .u16 a, .int .u16 b, .int .u16 c, .int .u16 d, .int .u16 e, .int .u16 g, .int .u16 i, .int .u16 j] := rfl
 have hc' : hCells ⟨k', n', f', [a', b', c', d', e', g', i', j']⟩ = #[.int .i64 k', .string (bs n'), .int .u32 f', .int .u16 a', .int .u16 b', .int .u16 c', .int .u16 d', .int .u16 e', .int .u16 g', .int .u16 i', .int .u16 j'] := rfl
 have h6 := fun W => six_cmp a b c d e g i j a' b' c' d' e' g' i' j' 9997 W
 have hn := sEq n n'
 obtain ⟨N, hN⟩ := ex_ (bs n)
 obtain ⟨M, hM⟩ := ex_ (bs n')
 rw [<- hN, <- hM] at hn
 rw [hc, hc', run_eql_struct, show (10000 : Nat) = 9999 + 1 from rfl, run_equalIn_agg w 9999 27 _ _ hS hp]
 rw [<- hN, <- hM]
 simp only [Program.fieldsOf, Tryz.underlying27]
 obtain ⟨X, hX⟩ := ex_ (decide ([a, b, c, d, e, g, i, j] = [a', b', c', d', e', g', i', j']))
 rw [<- hX] at h6
 clear hc hc' hN hM
 have hq2 : q = (decide (k = k') && decide (n = n') && decide (f = f') && X) := by
  rw [Bool.eq_iff_iff, hq, hX]
  simp [and_assoc]
 clear hX hq
 subst hq2
 go_simp
 repeat' split
 all_goals simp_all
section
variable {ops : Array Oper} {rest : List Oper} {o : Oper} {a : Act} {w : World} {Q : Exit -> Act -> World -> Prop}
theorem cmpH (hg : Region.wanted o (yielded ops a.tmps) = true) (x y : Operand) (ho : o.op = .binOp .eql 27 x y 27) (h h' : Hst) (hl : h.six.length = 8) (hl' : h'.six.length = 8) (q : Bool) (hq : q = true ↔ h = h') (hx : a.eval x = .agg (hCells h)) (hy : a.eval y = .agg (hCells h'))
  (k : wpList Tryz.prog ops Q rest (a.put o.dst (.bool q)) w) : wpList Tryz.prog ops Q (o :: rest) a w := by
 refine val_w hg (.bool q) ?_ k
 have e := hst_cmp h h' hl hl' w q hq
 have g := run_eqGuard_agg (P := Tryz.prog) w .eql 27 x y (hCells h) (hCells h') (by kernel_rfl)
 unfold execOp
 simp only [ho, hx, hy, Sem.run_bind, Sem.run_pure, Result.andThen_ok, e, g]
theorem loadMw (hg : Region.wanted o (yielded ops a.tmps) = true) (x : Operand) (ho : o.op = .load 27 x) (b k : Nat) (h : Hst) (hl : h.six.length = 8) (hx : a.eval x = .pointer (some ⟨b, k, none⟩)) (hr : w.rangeAt b k (hstCells h))
  (K : wpList Tryz.prog ops Q rest (a.put o.dst (.agg (hCells h))) w) : wpList Tryz.prog ops Q (o :: rest) a w :=
 val_w hg (.agg (hCells h)) (loadM_exec 27 x ho b k (hstCells h) _ Tryz.underlying27 rfl (by rw [host_info]; simp [hstCells, hl]) hx hr) K
end
theorem two_u (w : World) (pu pv : Value) (u v : Url) : ∃ W, (w.alloc (.cells (uCells pu u) 30)).alloc (.cells (uCells pv v) 30) = W ∧ Below w.heap.size w W ∧ CB W w.heap.size 30 (uCells pu u) ∧ CB W (w.heap.size + 1) 30 (uCells pv v) := by
 have hx := CB.new w 30 (uCells pu u)
 have hb := (Below.refl w.heap.size w).alloc (Nat.le_refl _) (.cells (uCells pu u) 30)
 obtain ⟨w1, hw1⟩ := ex_ (w.alloc (.cells (uCells pu u) 30))
 have hz1 : w1.heap.size = w.heap.size + 1 := by rw [hw1]; simp
 rw [<- hw1] at hx hb ⊢
 have hy := CB.new w1 30 (uCells pv v)
 have hb2 := (Below.refl w1.heap.size w1).alloc (Nat.le_refl _) (.cells (uCells pv v) 30)
 rw [hz1] at hy
 exact ⟨_, rfl, stp hb hb2, hx.keep hb2, hy⟩
theorem same_ret {a : Act} {w W2 : World} {u v : Url} {q : Bool} (h4 : a.tmps.getD 4 undef = .bool q) (hd : a.defers = []) (hb : Below w.heap.size w W2) (hq : q = true ↔ u = v) :
  bodyPost Tryz.prog Tryz.f19 (fun e w' => ∃ q, e = .returned (.bool q) ∧ (q = true ↔ u = v) ∧ Below w.heap.size w w') Exit.ret a W2 :=
 bodyPost_ret (v := .bool q) (by rw [<- h4]; exact results_tmp (fn := Tryz.f19) (t := 4) (by rfl) _ _ _) hd ⟨q, rfl, hq, hb⟩
theorem same_any (u v : Url) (pu pv : Value) (w : World) {B C : Nat} (hu8 : u.host.six.length = 8) (hv8 : v.host.six.length = 8) (h : Sl B w pu (u.path.map S)) (k : Sl C w pv (v.path.map S)) (hB : B <= w.heap.size) (hC : C <= w.heap.size) (hl : u.path.length <= 1024000000) (hm : v.path.length <= 1024000000) :
  Calls Tryz.prog 19 #[.agg (uCells pu u), .agg (uCells pv v)] w fun e w' => ∃ q, e = .returned (.bool q) ∧ (q = true ↔ u = v) ∧ Below w.heap.size w w' := by
 obtain ⟨W, hW, hb, k1, k2⟩ := two_u w pu pv u v
 have HW := h_ hW
 have HB := h_ hb
 have hh := h.below (hb.mono hB)
 have kk := k.below (hb.mono hC)
 have HEQ := h_ (equal_any u.path v.path pu pv W hh kk hl hm)
 have U8 := h_ hu8
 have V8 := h_ hv8
 have at1 := uAt pu u hu8
 have at2 := uAt pv v hv8
 have R1 := h_ (show W.rangeAt w.heap.size 3 (hstCells u.host) from fun j x hj => k1.cell_is (at1.host j x hj))
 have R2 := h_ (show W.rangeAt (w.heap.size + 1) 3 (hstCells v.host) from fun j x hj => k2.cell_is (at2.host j x hj))
 have e_sch := sEq u.sch v.sch
 obtain ⟨x_sch, hx_sch⟩ := ex_ (bs u.sch)
 obtain ⟨y_sch, hy_sch⟩ := ex_ (bs v.sch)
 rw [<- hx_sch, <- hy_sch] at e_sch
 obtain ⟨b_sch, f_sch⟩ := ex_ (decide (u.sch = v.sch))
 rw [<- f_sch] at e_sch
 have c_sch : W.cell? ⟨w.heap.size, 0, none⟩ = some (.string x_sch) := by rw [hx_sch]; exact k1.cell_is at1.sch
 have d_sch : W.cell? ⟨w.heap.size + 1, 0, none⟩ = some (.string y_sch) := by rw [hy_sch]; exact k2.cell_is at2.sch
 clear hx_sch hy_sch
 have E_sch := h_ (show b_sch = true ↔ u.sch = v.sch by rw [f_sch, decide_eq_true_eq]); clear f_sch
 have e_usr := sEq u.usr v.usr
 obtain ⟨x_usr, hx_usr⟩ := ex_ (bs u.usr)
 obtain ⟨y_usr, hy_usr⟩ := ex_ (bs v.usr)
 rw [<- hx_usr, <- hy_usr] at e_usr
 obtain ⟨b_usr, f_usr⟩ := ex_ (decide (u.usr = v.usr))
 rw [<- f_usr] at e_usr
 have c_usr : W.cell? ⟨w.heap.size, 1, none⟩ = some (.string x_usr) := by rw [hx_usr]; exact k1.cell_is at1.usr
 have d_usr : W.cell? ⟨w.heap.size + 1, 1, none⟩ = some (.string y_usr) := by rw [hy_usr]; exact k2.cell_is at2.usr
 clear hx_usr hy_usr
 have E_usr := h_ (show b_usr = true ↔ u.usr = v.usr by rw [f_usr, decide_eq_true_eq]); clear f_usr
 have e_pas := sEq u.pas v.pas
 obtain ⟨x_pas, hx_pas⟩ := ex_ (bs u.pas)
 obtain ⟨y_pas, hy_pas⟩ := ex_ (bs v.pas)
 rw [<- hx_pas, <- hy_pas] at e_pas
 obtain ⟨b_pas, f_pas⟩ := ex_ (decide (u.pas = v.pas))
 rw [<- f_pas] at e_pas
 have c_pas : W.cell? ⟨w.heap.size, 2, none⟩ = some (.string x_pas) := by rw [hx_pas]; exact k1.cell_is at1.pas
 have d_pas : W.cell? ⟨w.heap.size + 1, 2, none⟩ = some (.string y_pas) := by rw [hy_pas]; exact k2.cell_is at2.pas
 clear hx_pas hy_pas
 have E_pas := h_ (show b_pas = true ↔ u.pas = v.pas by rw [f_pas, decide_eq_true_eq]); clear f_pas
 obtain ⟨b_host, e_host⟩ : ∃ b : Bool, (b = true ↔ u.host = v.host) := by
  by_cases h : u.host = v.host
  ·exact ⟨true, fun _ => h, fun _ => rfl⟩
  ·exact ⟨false, fun h => (by cases h), fun h2 => absurd h2 h⟩
 have E_host := h_ e_host; clear e_host
 obtain ⟨x_hasPort, hx_hasPort⟩ := ex_ (u.hasPort)
 obtain ⟨y_hasPort, hy_hasPort⟩ := ex_ (v.hasPort)
 obtain ⟨b_hasPort, f_hasPort⟩ := ex_ (decide (u.hasPort = v.hasPort))
 have e_hasPort : (x_hasPort == y_hasPort) = b_hasPort := by rw [hx_hasPort, hy_hasPort, f_hasPort]; first | exact Bool.beq_eq_decide_eq _ _ | rfl
 have c_hasPort : W.cell? ⟨w.heap.size, 14, none⟩ = some (.bool x_hasPort) := by rw [hx_hasPort]; exact k1.cell_is at1.hasPort
 have d_hasPort : W.cell? ⟨w.heap.size + 1, 14, none⟩ = some (.bool y_hasPort) := by rw [hy_hasPort]; exact k2.cell_is at2.hasPort
 clear hx_hasPort hy_hasPort
 have E_hasPort := h_ (show b_hasPort = true ↔ u.hasPort = v.hasPort by rw [f_hasPort, decide_eq_true_eq]); clear f_hasPort
 obtain ⟨x_port, hx_port⟩ := ex_ (u.port)
 obtain ⟨y_port, hy_port⟩ := ex_ (v.port)
 obtain ⟨b_port, f_port⟩ := ex_ (decide (u.port = v.port))
 have e_port : (x_port == y_port) = b_port := by rw [hx_port, hy_port, f_port]; first | exact Bool.beq_eq_decide_eq _ _ | rfl
 have c_port : W.cell? ⟨w.heap.size, 15, none⟩ = some (.int .i64 x_port) := by rw [hx_port]; exact k1.cell_is at1.port
 have d_port : W.cell? ⟨w.heap.size + 1, 15, none⟩ = some (.int .i64 y_port) := by rw [hy_port]; exact k2.cell_is at2.port
 clear hx_port hy_port
 have E_port := h_ (show b_port = true ↔ u.port = v.port by rw [f_port, decide_eq_true_eq]); clear f_port
 obtain ⟨x_opq, hx_opq⟩ := ex_ (u.opq)
 obtain ⟨y_opq, hy_opq⟩ := ex_ (v.opq)
 obtain ⟨b_opq, f_opq⟩ := ex_ (decide (u.opq = v.opq))
 have e_opq : (x_opq == y_opq) = b_opq := by rw [hx_opq, hy_opq, f_opq]; first | exact Bool.beq_eq_decide_eq _ _ | rfl
 have c_opq : W.cell? ⟨w.heap.size, 16, none⟩ = some (.bool x_opq) := by rw [hx_opq]; exact k1.cell_is at1.opq
 have d_opq : W.cell? ⟨w.heap.size + 1, 16, none⟩ = some (.bool y_opq) := by rw [hy_opq]; exact k2.cell_is at2.opq
 clear hx_opq hy_opq
 have E_opq := h_ (show b_opq = true ↔ u.opq = v.opq by rw [f_opq, decide_eq_true_eq]); clear f_opq
 have e_flat := sEq u.flat v.flat
 obtain ⟨x_flat, hx_flat⟩ := ex_ (bs u.flat)
 obtain ⟨y_flat, hy_flat⟩ := ex_ (bs v.flat)
 rw [<- hx_flat, <- hy_flat] at e_flat
 obtain ⟨b_flat, f_flat⟩ := ex_ (decide (u.flat = v.flat))
 rw [<- f_flat] at e_flat
 have c_flat : W.cell? ⟨w.heap.size, 17, none⟩ = some (.string x_flat) := by rw [hx_flat]; exact k1.cell_is at1.flat
 have d_flat : W.cell? ⟨w.heap.size + 1, 17, none⟩ = some (.string y_flat) := by rw [hy_flat]; exact k2.cell_is at2.flat
 clear hx_flat hy_flat
 have E_flat := h_ (show b_flat = true ↔ u.flat = v.flat by rw [f_flat, decide_eq_true_eq]); clear f_flat
 obtain ⟨b_path, f_path⟩ := ex_ (decide (u.path = v.path))
 have c_path : W.cell? ⟨w.heap.size, 18, none⟩ = some (pu) := by exact k1.cell_is at1.path
 have d_path : W.cell? ⟨w.heap.size + 1, 18, none⟩ = some (pv) := by exact k2.cell_is at2.path
 have E_path := h_ (show b_path = true ↔ u.path = v.path by rw [f_path, decide_eq_true_eq]); have HEP := h_ (show Calls Tryz.prog 53 #[pu, pv] W fun e w' => e = .returned (.bool b_path) ∧ Below W.heap.size W w' from by have hh := HEQ.out; rw [<- f_path] at hh; exact hh); clear f_path
 obtain ⟨x_hasQ, hx_hasQ⟩ := ex_ (u.hasQ)
 obtain ⟨y_hasQ, hy_hasQ⟩ := ex_ (v.hasQ)
 obtain ⟨b_hasQ, f_hasQ⟩ := ex_ (decide (u.hasQ = v.hasQ))
 have e_hasQ : (x_hasQ == y_hasQ) = b_hasQ := by rw [hx_hasQ, hy_hasQ, f_hasQ]; first | exact Bool.beq_eq_decide_eq _ _ | rfl
 have L_hasQ := h_ (fun w2 (hb2 : Below W.heap.size W w2) => (show w2.cell? ⟨w.heap.size, 19, none⟩ = some (.bool x_hasQ) ∧ w2.cell? ⟨w.heap.size + 1, 19, none⟩ = some (.bool y_hasQ) from ⟨by rw [hx_hasQ]; exact (k1.keep hb2).cell_is at1.hasQ, by rw [hy_hasQ]; exact (k2.keep hb2).cell_is at2.hasQ⟩))
 clear hx_hasQ hy_hasQ
 have E_hasQ := h_ (show b_hasQ = true ↔ u.hasQ = v.hasQ by rw [f_hasQ, decide_eq_true_eq]); clear f_hasQ
 have e_q := sEq u.q v.q
 obtain ⟨x_q, hx_q⟩ := ex_ (bs u.q)
 obtain ⟨y_q, hy_q⟩ := ex_ (bs v.q)
 rw [<- hx_q, <- hy_q] at e_q
 obtain ⟨b_q, f_q⟩ := ex_ (decide (u.q = v.q))
 rw [<- f_q] at e_q
 have L_q := h_ (fun w2 (hb2 : Below W.heap.size W w2) => (show w2.cell? ⟨w.heap.size, 20, none⟩ = some (.string x_q) ∧ w2.cell? ⟨w.heap.size + 1, 20, none⟩ = some (.string y_q) from ⟨by rw [hx_q]; exact (k1.keep hb2).cell_is at1.q, by rw [hy_q]; exact (k2.keep hb2).cell_is at2.q⟩))
 clear hx_q hy_q
 have E_q := h_ (show b_q = true ↔ u.q = v.q by rw [f_q, decide_eq_true_eq]); clear f_q
 obtain ⟨x_hasF, hx_hasF⟩ := ex_ (u.hasF)
 obtain ⟨y_hasF, hy_hasF⟩ := ex_ (v.hasF)
 obtain ⟨b_hasF, f_hasF⟩ := ex_ (decide (u.hasF = v.hasF))
 have e_hasF : (x_hasF == y_hasF) = b_hasF := by rw [hx_hasF, hy_hasF, f_hasF]; first | exact Bool.beq_eq_decide_eq _ _ | rfl
 have L_hasF := h_ (fun w2 (hb2 : Below W.heap.size W w2) => (show w2.cell? ⟨w.heap.size, 21, none⟩ = some (.bool x_hasF) ∧ w2.cell? ⟨w.heap.size + 1, 21, none⟩ = some (.bool y_hasF) from ⟨by rw [hx_hasF]; exact (k1.keep hb2).cell_is at1.hasF, by rw [hy_hasF]; exact (k2.keep hb2).cell_is at2.hasF⟩))
 clear hx_hasF hy_hasF
 have E_hasF := h_ (show b_hasF = true ↔ u.hasF = v.hasF by rw [f_hasF, decide_eq_true_eq]); clear f_hasF
 have e_f := sEq u.f v.f
 obtain ⟨x_f, hx_f⟩ := ex_ (bs u.f)
 obtain ⟨y_f, hy_f⟩ := ex_ (bs v.f)
 rw [<- hx_f, <- hy_f] at e_f
 obtain ⟨b_f, f_f⟩ := ex_ (decide (u.f = v.f))
 rw [<- f_f] at e_f
 have L_f := h_ (fun w2 (hb2 : Below W.heap.size W w2) => (show w2.cell? ⟨w.heap.size, 22, none⟩ = some (.string x_f) ∧ w2.cell? ⟨w.heap.size + 1, 22, none⟩ = some (.string y_f) from ⟨by rw [hx_f]; exact (k1.keep hb2).cell_is at1.f, by rw [hy_f]; exact (k2.keep hb2).cell_is at2.f⟩))
 clear hx_f hy_f
 have E_f := h_ (show b_f = true ↔ u.f = v.f by rw [f_f, decide_eq_true_eq]); clear f_f
 clear at1 at2 k1 k2 hh kk hb hW h k hB hC hl hm hu8 hv8
 have HALL := h_ (show u = v ↔ (b_sch && b_usr && b_pas && b_host && b_hasPort && b_port && b_opq && b_flat && b_path && b_hasQ && b_q && b_hasF && b_f) = true from by
  simp only [Bool.and_eq_true, E_sch.out, E_usr.out, E_pas.out, E_host.out, E_hasPort.out, E_port.out, E_opq.out, E_flat.out, E_path.out, E_hasQ.out, E_q.out, E_hasF.out, E_f.out]
  constructor
  ·intro h; rw [h]; simp
  ·rintro ⟨⟨⟨⟨⟨⟨⟨⟨⟨⟨⟨⟨h1, h2⟩, h3⟩, h4⟩, h5⟩, h6⟩, h7⟩, h8⟩, h9⟩, h10⟩, h11⟩, h12⟩, h13⟩
   exact url_eq h1 h2 h3 h4 h5 h6 h7 h8 h9 h10 h11 h12 h13)
 clear HEQ E_sch E_usr E_pas E_hasPort E_port E_opq E_flat E_path E_hasQ E_q E_hasF E_f
 go_enter Tryz.func19, Tryz.ntmps19
 go_upto_region 1 with fail
 rw [HW.out]
 refine wp_region_lit ?_
 simp only [List.append_eq, List.cons_append, List.nil_append]
 go_wp2_with (first
  | (refine loadMw rfl (.tmp 25) rfl w.heap.size 3 u.host U8.out rfl R1.out ?_)
  | (refine loadMw rfl (.tmp 27) rfl (w.heap.size + 1) 3 v.host V8.out rfl R2.out ?_)
  | (refine cmpH rfl (.tmp 26) (.tmp 28) rfl u.host v.host U8.out V8.out b_host E_host.out rfl rfl ?_)
  | (go_at_call 53; refine HEP.out.mono ?_; rintro e w2 ⟨rfl, hb2⟩; have B2 := h_ (stp HB.out hb2); obtain ⟨c_hasQ, d_hasQ⟩ := L_hasQ.out _ hb2; obtain ⟨c_q, d_q⟩ := L_q.out _ hb2; obtain ⟨c_hasF, d_hasF⟩ := L_hasF.out _ hb2; obtain ⟨c_f, d_f⟩ := L_f.out _ hb2; clear hb2)
  | fail)
 all_goals first
  | (refine same_ret (q := b_f) (by rfl) (by rfl) (by first | exact B2.out | exact HB.out) ?_; rw [HALL.out]; clear HALL; simp_all)
  | (refine same_ret (q := false) (by rfl) (by rfl) (by first | exact B2.out | exact HB.out) ?_; rw [HALL.out]; clear HALL; simp_all)

theorem own_ts {w : World} {base e : Nat} {v : Value} {l : List Bytes} (h : w.ownsRow base e 1 v l.length (Strs l)) : w.ownsRow base e 1 v (Strs l).length (Strs l) := by
 rw [show (Strs l).length = l.length from List.length_map _]; exact h
structure UOk (u : Url) : Prop where
 ok : UrlOk u
 sm : UrlSm u
 bs : u.path.length <= 307200000 ∧ ∀ x ∈ u.path, List.length x <= 1024000000
theorem UOk.six {u : Url} (h : UOk u) : u.host.six.length = 8 := h.ok.h.l
theorem UOk.b {u : Url} (h : UOk u) : Bs u.path := ⟨h.bs.1, h.bs.2⟩
theorem uwr_any (u : Url) (pv : Value) (w : World) (h : UOk u) (hs : Sl w.heap.size w pv (u.path.map S)) (hE : NE w) : Calls Tryz.prog 39 #[.agg (uCells pv u), .bool true] w fun e w' => e = .returned (S (serF u true)) ∧ Below w.heap.size w w' :=
 swr_any u (uCells pv u) pv true w (urlAt_of pv h.ok) hs h.sm hE
theorem uok_read {s : Bytes} {u : Url} (hs : s.length <= 1000) (h : readU s = some u) : UOk u := by
 have hl := ul_readU hs (by omega) h
 exact ⟨good_ok (readU_good h), ul_sm hl (Nat.le_refl _) (by omega), ul_bs hl (by omega)⟩
theorem uright_any (u : Url) (pv : Value) (w : World) (h : UOk u) (hs : Sl w.heap.size w pv (u.path.map S)) (hl : (serF u true).length <= 1000) (hE : Env w) (hN : NE w) : Calls Tryz.prog 46 #[.agg (uCells pv u)] w fun e w' => ∃ q, e = .returned (.bool q) ∧ (q = true ↔ readU (serF u true) = some u) ∧ Below w.heap.size w w' := by
 have HWR := h_ (fun W (hb : Below w.heap.size w W) => uwr_any u pv W h ((hs.below hb).more hb.size) (hN.below hb))
 have HPA := h_ (fun W (hb : Below w.heap.size w W) => uparse_any (serF u true) W (Nat.le_trans hl (by decide)) (hE.below hb))
 have HSM := h_ (fun (v : Url) (qv : Value) W (hb : Below w.heap.size w W) (hv : readU (serF u true) = some v) (o : W.ownsRow w.heap.size 9 1 qv v.path.length (Strs v.path)) => same_any v u qv pv W (B := W.heap.size) (C := w.heap.size) (uok_read hl hv).six h.six (Sl.of_own (own_ts o)) (hs.below hb) (Nat.le_refl _) hb.size (by have := (uok_read hl hv).bs.1; omega) (by have := h.bs.1; omega))
 have HV8 := h_ (fun v (hv : readU (serF u true) = some v) => (uok_read hl hv).six)
 have H8 := h_ h.six
 obtain ⟨t, ht⟩ := ex_ (bs (serF u true))
 have HWR2 := h_ (show ∀ W, Below w.heap.size w W -> Calls Tryz.prog 39 #[.agg (uCells pv u), .bool true] W fun e w' => e = .returned (.string t) ∧ Below W.heap.size W w' from by rw [ht]; exact HWR.out)
 have HPA2 := h_ (show ∀ W, Below w.heap.size w W -> Calls Tryz.prog 44 #[.string t] W (ReadP W (readU (serF u true))) from by rw [ht]; exact HPA.out)
 clear h hs hl hE hN ht HWR HPA
 have C1 := h_ (CB.new w 30 (uCells pv u))
 have B1 := h_ ((Below.refl w.heap.size w).alloc (Nat.le_refl _) (.cells (uCells pv u) 30))
 obtain ⟨w1, hw1⟩ := ex_ (w.alloc (.cells (uCells pv u) 30))
 rw [<- hw1] at C1 B1
 have HW1 := h_ hw1
 clear hw1
 cases hR : readU (serF u true) with
 | none =>
  have HP := h_ (fun W hb => (show Calls Tryz.prog 44 #[.string t] W fun e w' => e = .returned (.tuple #[.agg (uCells nilV U0), .bool false]) ∧ Below W.heap.size W w' from by have h := HPA2.out W hb; rw [hR] at h; exact h))
  clear hR
  go_enter Tryz.func46, Tryz.ntmps46
  go_upto_region 1 with fail
  rw [<- HW1.out]
  go_upto_region 2 with (first
   | (refine loadUrl rfl (.tmp 1) rfl w.heap.size pv u H8.out rfl C1.out ?_)
   | (go_at_call 39; refine (HWR2.out _ B1.out).mono ?_; rintro e w2 ⟨rfl, hb⟩; have B2 := h_ (stp B1.out hb); clear hb)
   | (go_at_call 44; refine (HP.out _ B2.out).mono ?_; rintro e w3 ⟨rfl, hb⟩; have B3 := h_ (stp B2.out hb); clear hb)
   | (refine alloc_to rfl 30 rfl _ _ (allUrl _) ?_)
   | (refine storeUrl rfl (.tmp 3) (.tmp 9) rfl nilV U0 rfl rfl rfl rfl rfl ?_; intro w4 _ hb; have B4 := h_ (stp B3.out hb); clear hb)
   | fail)
  go_wp2_with fail
  go_ret
  exact ⟨_, rfl, ⟨fun h => (by cases h), fun h => (by cases h)⟩, B4.out⟩
 | some v =>
  have HP := h_ (fun W hb => (show Calls Tryz.prog 44 #[.string t] W fun e w' => ∃ qv, e = .returned (.tuple #[.agg (uCells qv v), .bool true]) ∧ w'.ownsRow W.heap.size 9 1 qv v.path.length (Strs v.path) ∧ Below W.heap.size W w' from by have h := HPA2.out W hb; rw [hR] at h; exact h))
  have V8 := h_ (HV8.out v hR)
  have HSV := h_ (fun qv W hb => HSM.out v qv W hb hR)
  clear hR
  go_enter Tryz.func46, Tryz.ntmps46
  go_upto_region 1 with fail
  rw [<- HW1.out]
  go_upto_region 2 with (first
   | (refine loadUrl rfl (.tmp 1) rfl w.heap.size pv u H8.out rfl C1.out ?_)
   | (go_at_call 39; refine (HWR2.out _ B1.out).mono ?_; rintro e w2 ⟨rfl, hb⟩; have B2 := h_ (stp B1.out hb); have C2 := h_ (C1.out.keep hb); clear hb)
   | (go_at_call 44; refine (HP.out _ B2.out).mono ?_; rintro e w3 ⟨qv, rfl, o3, hb⟩; have B3 := h_ (stp B2.out hb); have C3 := h_ (C2.out.keep hb); have O3 := h_ (own_base o3 B2.out.size); clear hb o3)
   | (refine alloc_to rfl 30 rfl _ _ (allUrl _) ?_)
   | (refine storeUrl rfl (.tmp 3) (.tmp 9) rfl qv v V8.out (own_one O3.out) rfl rfl rfl ?_; intro w4 h4 hb; have H4 := h_ h4; have B4 := h_ (stp B3.out hb); have C4 := h_ (C3.out.keep hb); have O4 := h_ (own_below' O3.out hb); clear hb h4)
   | fail)
  go_wp2_with (first
   | (refine loadUrl rfl (.tmp 3) rfl w3.heap.size qv v V8.out rfl H4.out ?_)
   | (refine loadUrl rfl (.tmp 1) rfl w.heap.size pv u H8.out rfl C4.out ?_)
   | (go_at_call 19; refine (HSV.out qv _ B4.out O4.out).mono ?_; rintro e w5 ⟨q, rfl, hq, hb⟩; have HQ := h_ hq; have B5 := h_ (stp B4.out hb); clear hb hq)
   | fail)
  go_ret
  refine ⟨q, rfl, ?_, B5.out⟩
  rw [HQ.out]
  exact ⟨fun h => by rw [h], fun h => Option.some.inj h⟩
theorem sm1_any (g : Nat) (bu : Url) (bv : Value) (s : Bytes) (w : World) (hg : CB w g 30 (uCells bv bu)) (h : UOk bu) (hbv : Sl w.heap.size w bv (bu.path.map S)) (hs : s.length <= 1000) (hU : ∀ u, readJ bu s = some u -> UOk u) (hE : Env w) (hN : NE w) :
  Calls Tryz.prog 45 #[.string (bs s), .pointer (some ⟨g, 0, none⟩)] w fun e w' => e = .returned (S (match readJ bu s with | none => [45] | some u => serF u true)) ∧ Below w.heap.size w w' := by
 have HJ := h_ (pjoin_any bu bv s w h.six hbv h.b (Nat.le_trans hs (by decide)) hE)
 have HG := h_ hg
 have H8 := h_ h.six
 obtain ⟨t, ht⟩ := ex_ (bs s)
 rw [<- ht] at HJ ⊢
 clear ht hg h hbv hs hE
 cases hR : readJ bu s with
 | none =>
  rw [hR] at HJ
  have HP := h_ (show Calls Tryz.prog 16 #[.agg (uCells bv bu), .string t] w fun e w' => e = .returned (.tuple #[.agg (uCells nilV U0), .bool false]) ∧ Below w.heap.size w w' from HJ.out)
  clear hR hU hN HJ
  go_enter Tryz.func45, Tryz.ntmps45
  go_wp2_with (first
   | (refine loadUrl rfl (.tmp 1) rfl g bv bu H8.out rfl HG.out ?_)
   | (go_at_call 16; refine HP.out.mono ?_; rintro e w3 ⟨rfl, hb⟩; have B3 := h_ hb; clear hb)
   | (refine alloc_to rfl 30 rfl _ _ (allUrl _) ?_)
   | (refine storeUrl rfl (.tmp 4) (.tmp 10) rfl nilV U0 rfl rfl rfl rfl rfl ?_; intro w4 _ hb; have B4 := h_ (stp B3.out hb); clear hb)
   | fail)
  go_ret
  exact ⟨rfl, B4.out⟩
 | some u =>
  rw [hR] at HJ
  have HP := h_ (show Calls Tryz.prog 16 #[.agg (uCells bv bu), .string t] w fun e w' => ∃ pv, e = .returned (.tuple #[.agg (uCells pv u), .bool true]) ∧ w'.ownsRow w.heap.size 9 1 pv u.path.length (Strs u.path) ∧ Below w.heap.size w w' from HJ.out)
  have UK := h_ (hU u hR)
  have U8 := h_ UK.out.six
  have HWR := h_ (fun W (hb : Below w.heap.size w W) pv (o : W.ownsRow w.heap.size 9 1 pv u.path.length (Strs u.path)) => uwr_any u pv W UK.out (Sl.of_own (own_ts o)) (hN.below hb))
  show Calls _ _ _ _ fun e w' => e = .returned (S (serF u true)) ∧ _
  obtain ⟨z, hz⟩ := ex_ (bs (serF u true))
  have HWZ := h_ (show ∀ W (hb : Below w.heap.size w W) pv (o : W.ownsRow w.heap.size 9 1 pv u.path.length (Strs u.path)), Calls Tryz.prog 39 #[.agg (uCells pv u), .bool true] W fun e w' => e = .returned (.string z) ∧ Below W.heap.size W w' from by rw [hz]; exact HWR.out)
  show Calls _ _ _ _ fun e w' => e = .returned (.string (bs (serF u true))) ∧ _
  rw [<- hz]
  clear hz hR hU hN HJ HWR UK
  go_enter Tryz.func45, Tryz.ntmps45
  go_wp2_with (first
   | (refine loadUrl rfl (.tmp 1) rfl g bv bu H8.out rfl HG.out ?_)
   | (go_at_call 16; refine HP.out.mono ?_; rintro e w3 ⟨pv, rfl, o3, hb⟩; have B3 := h_ hb; have O3 := h_ o3; clear hb o3)
   | (refine alloc_to rfl 30 rfl _ _ (allUrl _) ?_)
   | (refine storeUrl rfl (.tmp 4) (.tmp 10) rfl pv u U8.out (own_one O3.out) rfl rfl rfl ?_; intro w4 h4 hb; have B4 := h_ (stp B3.out hb); have H4 := h_ h4; have O4 := h_ (own_below' O3.out hb); clear hb h4)
   | (refine loadUrl rfl (.tmp 4) rfl w3.heap.size pv u U8.out rfl H4.out ?_)
   | (go_at_call 39; refine (HWZ.out _ B4.out pv O4.out).mono ?_; rintro e w5 ⟨rfl, hb⟩; have B5 := h_ (stp B4.out hb); clear hb)
   | fail)
  go_ret
  exact ⟨rfl, B5.out⟩

def sqB : Url := { U0 with sch := [104, 116, 116, 112], usr := [117], host := { H0 with kind := 2, name := [97] }, path := [[98], [99]], hasQ := true, q := [113], hasF := true, f := [102] }
theorem sqT_B : serF sqB true = ls ⟨#[104, 116, 116, 112, 58, 47, 47, 117, 64, 97, 47, 98, 47, 99, 63, 113, 35, 102]⟩ := by kernel_rfl
theorem sqK_B : UOk sqB := ⟨⟨⟨by decide, by decide, rfl, by decide⟩, by decide⟩, ⟨by decide, by decide, by decide, by decide, by decide, by decide, by decide, by decide⟩, by decide, by decide⟩
def sqF : Url := { U0 with sch := [102, 105, 108, 101], host := { H0 with kind := 1 }, path := [[67, 58], []] }
theorem sqT_F : serF sqF true = ls ⟨#[102, 105, 108, 101, 58, 47, 47, 47, 67, 58, 47]⟩ := by kernel_rfl
theorem sqK_F : UOk sqF := ⟨⟨⟨by decide, by decide, rfl, by decide⟩, by decide⟩, ⟨by decide, by decide, by decide, by decide, by decide, by decide, by decide, by decide⟩, by decide, by decide⟩
def sqD : Url := { U0 with sch := [100, 97, 116, 97], opq := true, flat := [32, 97, 98, 37, 50, 48], hasQ := true, q := [99] }
theorem sqT_D : serF sqD true = ls ⟨#[100, 97, 116, 97, 58, 32, 97, 98, 37, 50, 48, 63, 99]⟩ := by kernel_rfl
theorem sqK_D : UOk sqD := ⟨⟨⟨by decide, by decide, rfl, by decide⟩, by decide⟩, ⟨by decide, by decide, by decide, by decide, by decide, by decide, by decide, by decide⟩, by decide, by decide⟩
def sqG : Url := { U0 with sch := [102, 105, 108, 101], host := { H0 with kind := 1 }, path := [[67, 58], [121]] }
theorem sqT_G : serF sqG true = ls ⟨#[102, 105, 108, 101, 58, 47, 47, 47, 67, 58, 47, 121]⟩ := by kernel_rfl
theorem sqK_G : UOk sqG := ⟨⟨⟨by decide, by decide, rfl, by decide⟩, by decide⟩, ⟨by decide, by decide, by decide, by decide, by decide, by decide, by decide, by decide⟩, by decide, by decide⟩
def sqE : Url := { U0 with sch := [100, 97, 116, 97], opq := true, flat := [32, 97, 98, 37, 50, 48], hasQ := true, q := [99], hasF := true, f := [122] }
theorem sqT_E : serF sqE true = ls ⟨#[100, 97, 116, 97, 58, 32, 97, 98, 37, 50, 48, 63, 99, 35, 122]⟩ := by kernel_rfl
theorem sqK_E : UOk sqE := ⟨⟨⟨by decide, by decide, rfl, by decide⟩, by decide⟩, ⟨by decide, by decide, by decide, by decide, by decide, by decide, by decide, by decide⟩, by decide, by decide⟩
def sqJ1 : Url := { U0 with sch := [104, 116, 116, 112], usr := [117], host := { H0 with kind := 2, name := [97] }, path := [[100]] }
theorem sqT_J1 : serF sqJ1 true = ls ⟨#[104, 116, 116, 112, 58, 47, 47, 117, 64, 97, 47, 100]⟩ := by kernel_rfl
theorem sqK_J1 : UOk sqJ1 := ⟨⟨⟨by decide, by decide, rfl, by decide⟩, by decide⟩, ⟨by decide, by decide, by decide, by decide, by decide, by decide, by decide, by decide⟩, by decide, by decide⟩
def sqJ2 : Url := { U0 with sch := [104, 116, 116, 112], usr := [117], host := { H0 with kind := 2, name := [97] }, path := [[98], [99]], hasQ := true, q := [113] }
theorem sqT_J2 : serF sqJ2 true = ls ⟨#[104, 116, 116, 112, 58, 47, 47, 117, 64, 97, 47, 98, 47, 99, 63, 113]⟩ := by kernel_rfl
theorem sqK_J2 : UOk sqJ2 := ⟨⟨⟨by decide, by decide, rfl, by decide⟩, by decide⟩, ⟨by decide, by decide, by decide, by decide, by decide, by decide, by decide, by decide⟩, by decide, by decide⟩
def sqJ3 : Url := { U0 with sch := [104, 116, 116, 112], usr := [117], host := { H0 with kind := 2, name := [97] }, path := [[98], [99]], hasQ := true, q := [37, 50, 55] }
theorem sqT_J3 : serF sqJ3 true = ls ⟨#[104, 116, 116, 112, 58, 47, 47, 117, 64, 97, 47, 98, 47, 99, 63, 37, 50, 55]⟩ := by kernel_rfl
theorem sqK_J3 : UOk sqJ3 := ⟨⟨⟨by decide, by decide, rfl, by decide⟩, by decide⟩, ⟨by decide, by decide, by decide, by decide, by decide, by decide, by decide, by decide⟩, by decide, by decide⟩
def sqJ4 : Url := { U0 with sch := [104, 116, 116, 112], host := { H0 with kind := 2, name := [104] }, path := [[]] }
theorem sqT_J4 : serF sqJ4 true = ls ⟨#[104, 116, 116, 112, 58, 47, 47, 104, 47]⟩ := by kernel_rfl
theorem sqK_J4 : UOk sqJ4 := ⟨⟨⟨by decide, by decide, rfl, by decide⟩, by decide⟩, ⟨by decide, by decide, by decide, by decide, by decide, by decide, by decide, by decide⟩, by decide, by decide⟩
def sqJ5 : Url := { U0 with sch := [104, 116, 116, 112], host := { H0 with kind := 2, name := [104] }, path := [[120]] }
theorem sqT_J5 : serF sqJ5 true = ls ⟨#[104, 116, 116, 112, 58, 47, 47, 104, 47, 120]⟩ := by kernel_rfl
theorem sqK_J5 : UOk sqJ5 := ⟨⟨⟨by decide, by decide, rfl, by decide⟩, by decide⟩, ⟨by decide, by decide, by decide, by decide, by decide, by decide, by decide, by decide⟩, by decide, by decide⟩
def sqJ6 : Url := { U0 with sch := [104, 116, 116, 112], usr := [117], host := { H0 with kind := 2, name := [97] }, path := [[98], [121]] }
theorem sqT_J6 : serF sqJ6 true = ls ⟨#[104, 116, 116, 112, 58, 47, 47, 117, 64, 97, 47, 98, 47, 121]⟩ := by kernel_rfl
theorem sqK_J6 : UOk sqJ6 := ⟨⟨⟨by decide, by decide, rfl, by decide⟩, by decide⟩, ⟨by decide, by decide, by decide, by decide, by decide, by decide, by decide, by decide⟩, by decide, by decide⟩
def sqJ7 : Url := { U0 with sch := [104, 116, 116, 112, 115], host := { H0 with kind := 2, name := [121] }, path := [[]] }
theorem sqT_J7 : serF sqJ7 true = ls ⟨#[104, 116, 116, 112, 115, 58, 47, 47, 121, 47]⟩ := by kernel_rfl
theorem sqK_J7 : UOk sqJ7 := ⟨⟨⟨by decide, by decide, rfl, by decide⟩, by decide⟩, ⟨by decide, by decide, by decide, by decide, by decide, by decide, by decide, by decide⟩, by decide, by decide⟩
def sqJ8 : Url := { U0 with sch := [120], path := [[], [121]] }
theorem sqT_J8 : serF sqJ8 true = ls ⟨#[120, 58, 47, 46, 47, 47, 121]⟩ := by kernel_rfl
theorem sqK_J8 : UOk sqJ8 := ⟨⟨⟨by decide, by decide, rfl, by decide⟩, by decide⟩, ⟨by decide, by decide, by decide, by decide, by decide, by decide, by decide, by decide⟩, by decide, by decide⟩
def sqA : Url := { U0 with sch := [65] }
theorem sqT_A : serF sqA true = ls ⟨#[65, 58]⟩ := by kernel_rfl
theorem sqK_A : UOk sqA := ⟨⟨⟨by decide, by decide, rfl, by decide⟩, by decide⟩, ⟨by decide, by decide, by decide, by decide, by decide, by decide, by decide, by decide⟩, by decide, by decide⟩
theorem sqP_B : readU (ls ⟨#[104, 116, 116, 112, 58, 47, 47, 117, 64, 65, 47, 98, 47, 99, 63, 113, 35, 102]⟩) = some sqB := by kernel_rfl
theorem sqP_F : readU (ls ⟨#[70, 73, 76, 69, 58, 47, 47, 47, 67, 124, 47, 120, 47, 46, 46, 47, 46, 46]⟩) = some sqF := by kernel_rfl
theorem sqP_D : readU (ls ⟨#[100, 97, 116, 97, 58, 32, 97, 9, 98, 32, 63, 99]⟩) = some sqD := by kernel_rfl
theorem sqP_N : readU (ls ⟨#[97, 47, 98]⟩) = none := by kernel_rfl
theorem sqJ_G : readJ sqF (ls ⟨#[47, 121]⟩) = some sqG := by kernel_rfl
theorem sqJ_X : readJ sqD (ls ⟨#[120]⟩) = none := by kernel_rfl
theorem sqJ_E : readJ sqD (ls ⟨#[35, 122]⟩) = some sqE := by kernel_rfl
theorem sqW_1 : readJ sqB (ls ⟨#[46, 46, 47, 100]⟩) = some sqJ1 := by kernel_rfl
theorem sqW_2 : readJ sqB (ls ⟨#[]⟩) = some sqJ2 := by kernel_rfl
theorem sqW_3 : readJ sqB (ls ⟨#[63, 39]⟩) = some sqJ3 := by kernel_rfl
theorem sqW_4 : readJ sqB (ls ⟨#[47, 47, 104, 58, 56, 48]⟩) = some sqJ4 := by kernel_rfl
theorem sqW_5 : readJ sqB (ls ⟨#[92, 92, 104, 92, 120]⟩) = some sqJ5 := by kernel_rfl
theorem sqW_6 : readJ sqB (ls ⟨#[72, 84, 84, 80, 58, 121]⟩) = some sqJ6 := by kernel_rfl
theorem sqW_7 : readJ sqB (ls ⟨#[104, 116, 116, 112, 115, 58, 121]⟩) = some sqJ7 := by kernel_rfl
theorem sqW_8 : readJ sqB (ls ⟨#[120, 58, 47, 46, 47, 47, 121]⟩) = some sqJ8 := by kernel_rfl
theorem sqW_9 : readJ sqB (ls ⟨#[104, 116, 116, 112, 58, 47, 47, 97, 58, 98]⟩) = none := by kernel_rfl
theorem sqR_B : readU (serF sqB true) = some sqB := by kernel_rfl
theorem sqR_A : readU (serF sqA true) ≠ some sqA := by
 have h : readU (serF sqA true) = some { U0 with sch := [97], opq := true } := by kernel_rfl
 rw [h]
 intro e
 have e2 := congrArg (fun o => (o.map (·.opq)).getD false) e
 revert e2; decide

theorem rp_T (s : ByteArray) (u : Url) (h : readU (ls s) = some u) (hs : s.size <= 1000) (W : World) (hE : Env W) : Calls Tryz.prog 44 #[.string s] W fun e w' => ∃ pv, e = .returned (.tuple #[.agg (uCells pv u), .bool true]) ∧ w'.ownsRow W.heap.size 9 1 pv u.path.length (Strs u.path) ∧ Below W.heap.size W w' := by
 have k := uparse_any (ls s) W (by rw [ls_length]; omega) hE
 rw [h, bs_ls] at k
 exact k
theorem rp_N (s : ByteArray) (h : readU (ls s) = none) (hs : s.size <= 1000) (W : World) (hE : Env W) : Calls Tryz.prog 44 #[.string s] W fun e w' => e = .returned (.tuple #[.agg (uCells nilV U0), .bool false]) ∧ Below W.heap.size W w' := by
 have k := uparse_any (ls s) W (by rw [ls_length]; omega) hE
 rw [h, bs_ls] at k
 exact k
theorem rj_T (bu : Url) (bv : Value) (s : ByteArray) (u : Url) (h : readJ bu (ls s) = some u) (hs : s.size <= 1000) (hk : UOk bu) (W : World) (hbv : Sl W.heap.size W bv (bu.path.map S)) (hE : Env W) : Calls Tryz.prog 16 #[.agg (uCells bv bu), .string s] W fun e w' => ∃ pv, e = .returned (.tuple #[.agg (uCells pv u), .bool true]) ∧ w'.ownsRow W.heap.size 9 1 pv u.path.length (Strs u.path) ∧ Below W.heap.size W w' := by
 have k := pjoin_any bu bv (ls s) W hk.six hbv hk.b (by rw [ls_length]; omega) hE
 rw [h, bs_ls] at k
 exact k
theorem rj_N (bu : Url) (bv : Value) (s : ByteArray) (h : readJ bu (ls s) = none) (hs : s.size <= 1000) (hk : UOk bu) (W : World) (hbv : Sl W.heap.size W bv (bu.path.map S)) (hE : Env W) : Calls Tryz.prog 16 #[.agg (uCells bv bu), .string s] W fun e w' => e = .returned (.tuple #[.agg (uCells nilV U0), .bool false]) ∧ Below W.heap.size W w' := by
 have k := pjoin_any bu bv (ls s) W hk.six hbv hk.b (by rw [ls_length]; omega) hE
 rw [h, bs_ls] at k
 exact k
theorem sm1_T (g : Nat) (bu : Url) (bv : Value) (s t : ByteArray) (u : Url) (hJ : readJ bu (ls s) = some u) (hu : UOk u) (ht : serF u true = ls t) (hs : s.size <= 1000) (hk : UOk bu) (W : World) (hg : CB W g 30 (uCells bv bu)) (hbv : Sl W.heap.size W bv (bu.path.map S)) (hE : Env W) (hN : NE W) :
  Calls Tryz.prog 45 #[.string s, .pointer (some ⟨g, 0, none⟩)] W fun e w' => e = .returned (.string t) ∧ Below W.heap.size W w' := by
 have k := sm1_any g bu bv (ls s) W hg hk hbv (by rw [ls_length]; exact hs) (fun v hv => by rw [hJ] at hv; injection hv with hv; rw [<- hv]; exact hu) hE hN
 rw [hJ, bs_ls] at k
 have e : S (serF u true) = .string t := by show Value.string (bs (serF u true)) = _; rw [ht, bs_ls]
 dsimp only at k
 rw [e] at k
 exact k
theorem sm1_N (g : Nat) (bu : Url) (bv : Value) (s : ByteArray) (hJ : readJ bu (ls s) = none) (hs : s.size <= 1000) (hk : UOk bu) (W : World) (hg : CB W g 30 (uCells bv bu)) (hbv : Sl W.heap.size W bv (bu.path.map S)) (hE : Env W) (hN : NE W) :
  Calls Tryz.prog 45 #[.string s, .pointer (some ⟨g, 0, none⟩)] W fun e w' => e = .returned (.string ⟨#[45]⟩) ∧ Below W.heap.size W w' := by
 have k := sm1_any g bu bv (ls s) W hg hk hbv (by rw [ls_length]; exact hs) (fun v hv => by rw [hJ] at hv; cases hv) hE hN
 rw [hJ, bs_ls] at k
 exact k
theorem wr_T (u : Url) (pv : Value) (t : ByteArray) (hu : UOk u) (ht : serF u true = ls t) (W : World) (hs : Sl W.heap.size W pv (u.path.map S)) (hN : NE W) : Calls Tryz.prog 39 #[.agg (uCells pv u), .bool true] W fun e w' => e = .returned (.string t) ∧ Below W.heap.size W w' := by
 have k := uwr_any u pv W hu hs hN
 have e : S (serF u true) = .string t := by show Value.string (bs (serF u true)) = _; rw [ht, bs_ls]
 rw [e] at k
 exact k
theorem rt_T (u : Url) (pv : Value) (hu : UOk u) (h : readU (serF u true) = some u) (hl : (serF u true).length <= 1000) (W : World) (hs : Sl W.heap.size W pv (u.path.map S)) (hE : Env W) (hN : NE W) : Calls Tryz.prog 46 #[.agg (uCells pv u)] W fun e w' => e = .returned (.bool true) ∧ Below W.heap.size W w' := by
 refine (uright_any u pv W hu hs hl hE hN).mono ?_
 rintro e w' ⟨q, rfl, hq, hb⟩
 rw [hq.mpr h]
 exact ⟨rfl, hb⟩
theorem rt_F (u : Url) (pv : Value) (hu : UOk u) (h : readU (serF u true) ≠ some u) (hl : (serF u true).length <= 1000) (W : World) (hs : Sl W.heap.size W pv (u.path.map S)) (hE : Env W) (hN : NE W) : Calls Tryz.prog 46 #[.agg (uCells pv u)] W fun e w' => e = .returned (.bool false) ∧ Below W.heap.size W w' := by
 refine (uright_any u pv W hu hs hl hE hN).mono ?_
 rintro e w' ⟨q, rfl, hq, hb⟩
 have : q = false := by
  cases q with
  | false => rfl
  | true => exact absurd (hq.mp rfl) h
 rw [this]
 exact ⟨rfl, hb⟩
theorem bldQA : ∀ w, (Instr.build 30 #[(0, .string ⟨#[65]⟩)]).run Tryz.prog w = .ok (.agg (uCells nilV sqA)) w := fun w => by kernel_rfl
theorem small17_any (w : World) (hE : Env w) (hN : NE w) : Calls Tryz.prog 14 #[] w fun e w' => e = .returned (.bool true) ∧ Below w.heap.size w w' := by
 have hmf : ∀ (fn : Fn) (first cap : Array Value) (w : World), (Instr.makeFunc fn first cap).run Tryz.prog w = .ok (.func fn first cap) w := fun _ _ _ _ => rfl
 have HE := h_ hE
 have HN := h_ hN
 have HB0 := h_ (Below.refl w.heap.size w)
 clear hE hN
 go_enter Tryz.func14, Tryz.ntmps14
 go_upto_region 2 with (first
  | (go_at_call 44; refine (rp_T _ _ sqP_B (by decide) _ (HE.out.below HB0.out)).mono ?_; rintro e w1 ⟨pv1, rfl, oo, hb⟩; have HC1 := h_ hb; have OC1 := h_ oo; clear hb oo)
  | (refine alloc_to rfl 30 rfl _ _ (allUrl _) ?_)
  | (refine storeUrl rfl (.tmp 1) (.tmp 18) rfl pv1 sqB rfl (own_one OC1.out) rfl rfl rfl ?_; intro W1 hh hb; have HH1 := h_ hh; have HO1 := h_ (own_below' OC1.out hb); have HS1 := h_ (stp HC1.out hb); have HB1 := h_ (stp HB0.out HS1.out); clear hh hb)
  | fail)
 go_upto_region 6 with (first
  | (go_at_call 44; refine (rp_T _ _ sqP_F (by decide) _ (HE.out.below HB1.out)).mono ?_; rintro e w2 ⟨pv2, rfl, oo, hb⟩; have HC2 := h_ hb; have OC2 := h_ oo; clear hb oo)
  | (refine alloc_to rfl 30 rfl _ _ (allUrl _) ?_)
  | (refine storeUrl rfl (.tmp 4) (.tmp 25) rfl pv2 sqF rfl (own_one OC2.out) rfl rfl rfl ?_; intro W2 hh hb; have HH2 := h_ hh; have HO2 := h_ (own_below' OC2.out hb); have HS2 := h_ (stp HC2.out hb); have HB2 := h_ (stp HB1.out HS2.out); clear hh hb)
  | fail)
 go_upto_region 7 with (first
  | (go_at_call 44; refine (rp_T _ _ sqP_D (by decide) _ (HE.out.below HB2.out)).mono ?_; rintro e w3 ⟨pv3, rfl, oo, hb⟩; have HC3 := h_ hb; have OC3 := h_ oo; clear hb oo)
  | (refine alloc_to rfl 30 rfl _ _ (allUrl _) ?_)
  | (refine storeUrl rfl (.tmp 6) (.tmp 29) rfl pv3 sqD rfl (own_one OC3.out) rfl rfl rfl ?_; intro W3 hh hb; have HH3 := h_ hh; have HO3 := h_ (own_below' OC3.out hb); have HS3 := h_ (stp HC3.out hb); have HB3 := h_ (stp HB2.out HS3.out); clear hh hb)
  | fail)
 go_upto_region 8 with (first
  | (go_at_call 44; refine (rp_N _ sqP_N (by decide) _ (HE.out.below HB3.out)).mono ?_; rintro e w4 ⟨rfl, hb⟩; have HC4 := h_ hb; clear hb)
  | (refine alloc_to rfl 30 rfl _ _ (allUrl _) ?_)
  | (refine storeUrl rfl (.tmp 8) (.tmp 33) rfl nilV U0 rfl rfl rfl rfl rfl ?_; intro W4 hh hb; have HH4 := h_ hh; have HS4 := h_ (stp HC4.out hb); have HB4 := h_ (stp HB3.out HS4.out); clear hh hb)
  | fail)
 have BK5 := h_ (HH2.out.keep (stp HS3.out HS4.out))
 have BS5 := h_ (Sl.of_own (own_ts (own_below' HO2.out (stp HS3.out HS4.out))))
 go_upto_region 9 with (first
  | (refine loadUrl (by rfl) (.tmp 4) rfl _ pv2 sqF rfl rfl BK5.out ?_)
  | (go_at_call 16; refine (rj_T _ _ _ _ sqJ_G (by decide) sqK_F _ BS5.out (HE.out.below HB4.out)).mono ?_; rintro e w5 ⟨pv5, rfl, oo, hb⟩; have HC5 := h_ hb; have OC5 := h_ oo; clear hb oo)
  | (refine alloc_to rfl 30 rfl _ _ (allUrl _) ?_)
  | (refine storeUrl rfl (.tmp 10) (.tmp 38) rfl pv5 sqG rfl (own_one OC5.out) rfl rfl rfl ?_; intro W5 hh hb; have HH5 := h_ hh; have HO5 := h_ (own_below' OC5.out hb); have HS5 := h_ (stp HC5.out hb); have HB5 := h_ (stp HB4.out HS5.out); clear hh hb)
  | fail)
 have BK6 := h_ (HH3.out.keep (stp HS4.out HS5.out))
 have BS6 := h_ (Sl.of_own (own_ts (own_below' HO3.out (stp HS4.out HS5.out))))
 go_upto_region 10 with (first
  | (refine loadUrl (by rfl) (.tmp 6) rfl _ pv3 sqD rfl rfl BK6.out ?_)
  | (go_at_call 16; refine (rj_N _ _ _ sqJ_X (by decide) sqK_D _ BS6.out (HE.out.below HB5.out)).mono ?_; rintro e w6 ⟨rfl, hb⟩; have HC6 := h_ hb; clear hb)
  | (refine alloc_to rfl 30 rfl _ _ (allUrl _) ?_)
  | (refine storeUrl rfl (.tmp 12) (.tmp 43) rfl nilV U0 rfl rfl rfl rfl rfl ?_; intro W6 hh hb; have HH6 := h_ hh; have HS6 := h_ (stp HC6.out hb); have HB6 := h_ (stp HB5.out HS6.out); clear hh hb)
  | fail)
 have BK7 := h_ (HH3.out.keep (stp (stp HS4.out HS5.out) HS6.out))
 have BS7 := h_ (Sl.of_own (own_ts (own_below' HO3.out (stp (stp HS4.out HS5.out) HS6.out))))
 go_upto_region 11 with (first
  | (refine loadUrl (by rfl) (.tmp 6) rfl _ pv3 sqD rfl rfl BK7.out ?_)
  | (go_at_call 16; refine (rj_T _ _ _ _ sqJ_E (by decide) sqK_D _ BS7.out (HE.out.below HB6.out)).mono ?_; rintro e w7 ⟨pv7, rfl, oo, hb⟩; have HC7 := h_ hb; have OC7 := h_ oo; clear hb oo)
  | (refine alloc_to rfl 30 rfl _ _ (allUrl _) ?_)
  | (refine storeUrl rfl (.tmp 14) (.tmp 48) rfl pv7 sqE rfl (own_one OC7.out) rfl rfl rfl ?_; intro W7 hh hb; have HH7 := h_ hh; have HO7 := h_ (own_below' OC7.out hb); have HS7 := h_ (stp HC7.out hb); have HB7 := h_ (stp HB6.out HS7.out); clear hh hb)
  | fail)
 have KB := h_ (HH1.out.keep (stp (stp (stp (stp (stp HS2.out HS3.out) HS4.out) HS5.out) HS6.out) HS7.out))
 have SB := h_ (Sl.of_own (own_ts (own_below' HO1.out (stp (stp (stp (stp (stp HS2.out HS3.out) HS4.out) HS5.out) HS6.out) HS7.out))))
 have KF := h_ (HH2.out.keep (stp (stp (stp (stp HS3.out HS4.out) HS5.out) HS6.out) HS7.out))
 have SF := h_ (Sl.of_own (own_ts (own_below' HO2.out (stp (stp (stp (stp HS3.out HS4.out) HS5.out) HS6.out) HS7.out))))
 have KD := h_ (HH3.out.keep (stp (stp (stp HS4.out HS5.out) HS6.out) HS7.out))
 have SD := h_ (Sl.of_own (own_ts (own_below' HO3.out (stp (stp (stp HS4.out HS5.out) HS6.out) HS7.out))))
 have KG := h_ (HH5.out.keep (stp HS6.out HS7.out))
 have SG := h_ (Sl.of_own (own_ts (own_below' HO5.out (stp HS6.out HS7.out))))
 have KE := h_ HH7.out
 have SE := h_ (Sl.of_own (own_ts HO7.out))
 have D0 := h_ (Below.refl W7.heap.size W7)
 have HE7 := h_ (fun W (hb : Below W7.heap.size W7 W) => (HE.out.below HB7.out).below hb)
 have HN7 := h_ (fun W (hb : Below W7.heap.size W7 W) => (HN.out.below HB7.out).below hb)
 have SM1 := h_ (fun W (hb : Below W7.heap.size W7 W) => sm1_T _ sqB pv1 ⟨#[46, 46, 47, 100]⟩ ⟨#[104, 116, 116, 112, 58, 47, 47, 117, 64, 97, 47, 100]⟩ _ sqW_1 sqK_J1 sqT_J1 (by decide) sqK_B W (KB.out.keep hb) ((SB.out.below hb).more hb.size) (HE7.out W hb) (HN7.out W hb))
 have SM2 := h_ (fun W (hb : Below W7.heap.size W7 W) => sm1_T _ sqB pv1 ⟨#[]⟩ ⟨#[104, 116, 116, 112, 58, 47, 47, 117, 64, 97, 47, 98, 47, 99, 63, 113]⟩ _ sqW_2 sqK_J2 sqT_J2 (by decide) sqK_B W (KB.out.keep hb) ((SB.out.below hb).more hb.size) (HE7.out W hb) (HN7.out W hb))
 have SM3 := h_ (fun W (hb : Below W7.heap.size W7 W) => sm1_T _ sqB pv1 ⟨#[63, 39]⟩ ⟨#[104, 116, 116, 112, 58, 47, 47, 117, 64, 97, 47, 98, 47, 99, 63, 37, 50, 55]⟩ _ sqW_3 sqK_J3 sqT_J3 (by decide) sqK_B W (KB.out.keep hb) ((SB.out.below hb).more hb.size) (HE7.out W hb) (HN7.out W hb))
 have SM4 := h_ (fun W (hb : Below W7.heap.size W7 W) => sm1_T _ sqB pv1 ⟨#[47, 47, 104, 58, 56, 48]⟩ ⟨#[104, 116, 116, 112, 58, 47, 47, 104, 47]⟩ _ sqW_4 sqK_J4 sqT_J4 (by decide) sqK_B W (KB.out.keep hb) ((SB.out.below hb).more hb.size) (HE7.out W hb) (HN7.out W hb))
 have SM5 := h_ (fun W (hb : Below W7.heap.size W7 W) => sm1_T _ sqB pv1 ⟨#[92, 92, 104, 92, 120]⟩ ⟨#[104, 116, 116, 112, 58, 47, 47, 104, 47, 120]⟩ _ sqW_5 sqK_J5 sqT_J5 (by decide) sqK_B W (KB.out.keep hb) ((SB.out.below hb).more hb.size) (HE7.out W hb) (HN7.out W hb))
 have SM6 := h_ (fun W (hb : Below W7.heap.size W7 W) => sm1_T _ sqB pv1 ⟨#[72, 84, 84, 80, 58, 121]⟩ ⟨#[104, 116, 116, 112, 58, 47, 47, 117, 64, 97, 47, 98, 47, 121]⟩ _ sqW_6 sqK_J6 sqT_J6 (by decide) sqK_B W (KB.out.keep hb) ((SB.out.below hb).more hb.size) (HE7.out W hb) (HN7.out W hb))
 have SM7 := h_ (fun W (hb : Below W7.heap.size W7 W) => sm1_T _ sqB pv1 ⟨#[104, 116, 116, 112, 115, 58, 121]⟩ ⟨#[104, 116, 116, 112, 115, 58, 47, 47, 121, 47]⟩ _ sqW_7 sqK_J7 sqT_J7 (by decide) sqK_B W (KB.out.keep hb) ((SB.out.below hb).more hb.size) (HE7.out W hb) (HN7.out W hb))
 have SM8 := h_ (fun W (hb : Below W7.heap.size W7 W) => sm1_T _ sqB pv1 ⟨#[120, 58, 47, 46, 47, 47, 121]⟩ ⟨#[120, 58, 47, 46, 47, 47, 121]⟩ _ sqW_8 sqK_J8 sqT_J8 (by decide) sqK_B W (KB.out.keep hb) ((SB.out.below hb).more hb.size) (HE7.out W hb) (HN7.out W hb))
 have SM9 := h_ (fun W (hb : Below W7.heap.size W7 W) => sm1_N _ sqB pv1 ⟨#[104, 116, 116, 112, 58, 47, 47, 97, 58, 98]⟩ sqW_9 (by decide) sqK_B W (KB.out.keep hb) ((SB.out.below hb).more hb.size) (HE7.out W hb) (HN7.out W hb))
 have SWF := h_ (fun W (hb : Below W7.heap.size W7 W) => wr_T sqF pv2 ⟨#[102, 105, 108, 101, 58, 47, 47, 47, 67, 58, 47]⟩ sqK_F sqT_F W ((SF.out.below hb).more hb.size) (HN7.out W hb))
 have SWD := h_ (fun W (hb : Below W7.heap.size W7 W) => wr_T sqD pv3 ⟨#[100, 97, 116, 97, 58, 32, 97, 98, 37, 50, 48, 63, 99]⟩ sqK_D sqT_D W ((SD.out.below hb).more hb.size) (HN7.out W hb))
 have SWG := h_ (fun W (hb : Below W7.heap.size W7 W) => wr_T sqG pv5 ⟨#[102, 105, 108, 101, 58, 47, 47, 47, 67, 58, 47, 121]⟩ sqK_G sqT_G W ((SG.out.below hb).more hb.size) (HN7.out W hb))
 have SWE := h_ (fun W (hb : Below W7.heap.size W7 W) => wr_T sqE pv7 ⟨#[100, 97, 116, 97, 58, 32, 97, 98, 37, 50, 48, 63, 99, 35, 122]⟩ sqK_E sqT_E W ((SE.out.below hb).more hb.size) (HN7.out W hb))
 have SRB := h_ (fun W (hb : Below W7.heap.size W7 W) => rt_T sqB pv1 sqK_B sqR_B (by rw [sqT_B]; decide) W ((SB.out.below hb).more hb.size) (HE7.out W hb) (HN7.out W hb))
 have SRA := h_ (fun W (hb : Below W7.heap.size W7 W) => rt_F sqA nilV sqK_A sqR_A (by rw [sqT_A]; decide) W Sl.nil (HE7.out W hb) (HN7.out W hb))
 have HBW := h_ HB7.out
 clear HS1 HB1 HS2 HB2 HS3 HB3 HS4 HB4 HS5 HB5 HS6 HB6 HS7 HB7 HB0 HE HN SB SF SD SG SE HE7 HN7 HC1 HH1 HC2 HH2 HC3 HH3 HC4 HH4 HC5 HH5 HC6 HH6 HC7 HH7 HO1 HO2 HO3 HO5 HO7 OC1 OC2 OC3 OC5 OC7 BK5 BS5 BK6 BS6 BK7 BS7
 refine wp_region_lit ?_
 try simp only [List.append_eq, List.cons_append, List.nil_append]
 go_wp2_with (first
  | (go_at_call 45; with_reducible refine (SM1.out _ D0.out).mono ?_; rintro e x1 ⟨rfl, hb⟩; have D1 := h_ (stp D0.out hb); clear hb)
  | (go_at_call 45; with_reducible refine (SM2.out _ D1.out).mono ?_; rintro e x2 ⟨rfl, hb⟩; have D2 := h_ (stp D1.out hb); clear hb)
  | (go_at_call 45; with_reducible refine (SM3.out _ D2.out).mono ?_; rintro e x3 ⟨rfl, hb⟩; have D3 := h_ (stp D2.out hb); clear hb)
  | (go_at_call 45; with_reducible refine (SM4.out _ D3.out).mono ?_; rintro e x4 ⟨rfl, hb⟩; have D4 := h_ (stp D3.out hb); clear hb)
  | (go_at_call 45; with_reducible refine (SM5.out _ D4.out).mono ?_; rintro e x5 ⟨rfl, hb⟩; have D5 := h_ (stp D4.out hb); clear hb)
  | (go_at_call 45; with_reducible refine (SM6.out _ D5.out).mono ?_; rintro e x6 ⟨rfl, hb⟩; have D6 := h_ (stp D5.out hb); clear hb)
  | (go_at_call 45; with_reducible refine (SM7.out _ D6.out).mono ?_; rintro e x7 ⟨rfl, hb⟩; have D7 := h_ (stp D6.out hb); clear hb)
  | (go_at_call 45; with_reducible refine (SM8.out _ D7.out).mono ?_; rintro e x8 ⟨rfl, hb⟩; have D8 := h_ (stp D7.out hb); clear hb)
  | (go_at_call 45; with_reducible refine (SM9.out _ D8.out).mono ?_; rintro e x9 ⟨rfl, hb⟩; have D9 := h_ (stp D8.out hb); clear hb)
  | (refine loadUrl (by rfl) (.tmp 4) rfl _ pv2 sqF rfl rfl (KF.out.keep D9.out) ?_)
  | (go_at_call 39; with_reducible refine (SWF.out _ D9.out).mono ?_; rintro e x10 ⟨rfl, hb⟩; have D10 := h_ (stp D9.out hb); clear hb)
  | (refine loadUrl (by rfl) (.tmp 6) rfl _ pv3 sqD rfl rfl (KD.out.keep D10.out) ?_)
  | (go_at_call 39; with_reducible refine (SWD.out _ D10.out).mono ?_; rintro e x11 ⟨rfl, hb⟩; have D11 := h_ (stp D10.out hb); clear hb)
  | (refine loadUrl (by rfl) (.tmp 10) rfl _ pv5 sqG rfl rfl (KG.out.keep D11.out) ?_)
  | (go_at_call 39; with_reducible refine (SWG.out _ D11.out).mono ?_; rintro e x12 ⟨rfl, hb⟩; have D12 := h_ (stp D11.out hb); clear hb)
  | (refine loadUrl (by rfl) (.tmp 14) rfl _ pv7 sqE rfl rfl (KE.out.keep D12.out) ?_)
  | (go_at_call 39; with_reducible refine (SWE.out _ D12.out).mono ?_; rintro e x13 ⟨rfl, hb⟩; have D13 := h_ (stp D12.out hb); clear hb)
  | (refine loadUrl (by rfl) (.tmp 1) rfl _ pv1 sqB rfl rfl (KB.out.keep D13.out) ?_)
  | (go_at_call 46; with_reducible refine (SRB.out _ D13.out).mono ?_; rintro e x14 ⟨rfl, hb⟩; have D14 := h_ (stp D13.out hb); clear hb)
  | (refine build_w (by rfl) 30 #[(0, .const (.string ⟨#[65]⟩))] rfl (.agg (uCells nilV sqA)) #[(0, .string ⟨#[65]⟩)] (by rfl) bldQA ?_)
  | (go_at_call 46; refine (SRA.out _ D14.out).mono ?_; rintro e x15 ⟨rfl, hb⟩; have D15 := h_ (stp D14.out hb); clear hb)
  | fail)
 go_ret
 exact ⟨ret1_bool (by simp), stp HBW.out D15.out⟩
end Go.Proofs.YtpckaimpjccjhaaGreatDoor
