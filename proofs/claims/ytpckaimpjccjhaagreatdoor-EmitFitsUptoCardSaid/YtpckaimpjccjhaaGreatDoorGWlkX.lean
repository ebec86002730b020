/- WlkX WlkY WlkZ: joined. -/
import Derived.Test.YtpckaimpjccjhaaGreatDoorGWlkT
import Derived.Test.YtpckaimpjccjhaaGreatDoorGSixF
import Derived.Test.YtpckaimpjccjhaaGreatDoorGWlkH
import Derived.Test.YtpckaimpjccjhaaGreatDoorGHlwA
import Derived.Test.YtpckaimpjccjhaaGreatDoorGAthW
set_option maxHeartbeats 40000000
namespace Go.Proofs.YtpckaimpjccjhaaGreatDoor
open Go.RowKit
set_option maxRecDepth 10000
def ReadP (w : World) : Option Url -> Ending -> World -> Prop
 | none, e, w' => e = .returned (.tuple #[.agg (uCells nilV U0), .bool false]) ∧ Below w.heap.size w w'
 | some u, e, w' => ∃ pv, e = .returned (.tuple #[.agg (uCells pv u), .bool true]) ∧ w'.ownsRow w.heap.size 9 1 pv u.path.length (Strs u.path) ∧ Below w.heap.size w w'
theorem OB.cb {w0 W : World} {b : Nat} {T : TypeId} {cs : Array Value} (i : OB w0 b T cs W) : CB W b T cs := ⟨i.a⟩
theorem OB.tn {w0 W W' : World} {b g : Nat} {T T' : TypeId} {cs cs' : Array Value} (i : OB w0 g T cs W) (t : Tn b W W') (hn : g ≠ b) (j : OB w0 b T' cs' W') : OB w0 g T cs W' := OB.of (t.cb i.cb hn) i.le j.bel
theorem boxes4 (w : World) (bv : Value) (u : Url) (p : Prt) : ∃ w4, (((w.alloc (.cells (uCells bv u) 30)).alloc (.cells (pCells p) 35)).alloc (.cells (uCells nilV U0) 30)).alloc (.cells #[.bool false] 4) = w4 ∧ w4.heap.size = w.heap.size + 4 ∧
  CB w4 w.heap.size 30 (uCells bv u) ∧ CB w4 (w.heap.size + 1) 35 (pCells p) ∧ OB w (w.heap.size + 2) 30 (uCells nilV U0) w4 ∧ OB w (w.heap.size + 3) 4 #[.bool false] w4 := by
 obtain ⟨w3, hw3, hz3, hb, k1, k2, k3⟩ := three w bv u p
 rw [hw3]
 have hx := CB.new w3 4 #[.bool false]
 have hb2 := (Below.refl w3.heap.size w3).alloc (Nat.le_refl _) (.cells #[.bool false] 4)
 refine ⟨_, rfl, by simp [hz3], k1.keep hb2, k2.keep hb2, OB.of (k3.keep hb2) (by omega) (stp hb hb2), ?_⟩
 rw [hz3] at hx
 exact OB.of hx (by omega) (stp hb hb2)
theorem rd_res {tmps : Array Value} {w w2 : World} {b : Nat} {pv : Value} {u : Url} {q : Bool} (h4 : tmps.getD 4 undef = .pointer (some ⟨b, 0, none⟩)) (h5 : tmps.getD 5 undef = .pointer (some ⟨b + 1, 0, none⟩)) (h8 : u.host.six.length = 8) (i : OB w b 30 (uCells pv u) w2) (j : OB w (b + 1) 4 #[.bool q] w2) :
  (results Tryz.f47 tmps).run Tryz.prog w2 = .ok (.tuple #[.agg (uCells pv u), .bool q]) w2 := by
 have h4' : tmps[4]?.getD undef = .pointer (some ⟨b, 0, none⟩) := by simpa using h4
 have h5' : tmps[5]?.getD undef = .pointer (some ⟨b + 1, 0, none⟩) := by simpa using h5
 have hl := i.load (P := Tryz.prog) 30 _ Tryz.underlying30 rfl (by rw [u_size h8]; exact u_info)
 have hc := j.cell_is (j := 0) (v := .bool q) rfl
 have hlb : (loadVar 4 ⟨b + 1, 0, none⟩).run Tryz.prog w2 = .ok (.bool q) w2 := by simp [go_sem, hc]
 simp [results, Tryz.results47, asAddr, h4', h5', hl, hlb]
theorem rcatch_stop (w0 : World) (b : Nat) (u : TypeId) (pv : Value) (older : List PanicEntry) (w : World) (i : OB w0 b 30 (uCells nilV U0) w) (j : OB w0 (b + 1) 4 #[.bool false] w) :
  CallsD Tryz.prog 88 #[.pointer (some ⟨b, 0, none⟩), .pointer (some ⟨b + 1, 0, none⟩)] (.panicking ({ v := .iface u pv, recovered := false } :: older)) w fun e u' w' =>
   e = .returned (.tuple #[]) ∧ u' = .panicking ({ v := .iface u pv, recovered := true } :: older) ∧ OB w0 b 30 (uCells nilV U0) w' ∧ OB w0 (b + 1) 4 #[.bool false] w' := by
 refine callsD_of_wpS Tryz.func88 rfl fun c₀ cs hu => ?_
 apply wpS_seq
 apply wpS_region
 simp [wpOpsS, go_sem, recoverD, hu, Tryz.ntmps88, Exit.thenS]
 refine wpS_cond (t := true) (by simp [Act.eval, Array.replicate]) ?_
 simp only [if_true]
 refine wpS_of_wp ?_
 have I := h_ i; have J := h_ j; clear i j
 go_wp2_with (first
  | (refine build_to rfl 30 #[] rfl (.agg (uCells nilV U0)) #[] rfl bldUrl0 ?_)
  | (refine putU rfl (.tmp 0) (.tmp 4) rfl w0 b I.out nilV U0 rfl rfl rfl rfl ?_; intro w2 i2 t2; have I2 := h_ i2; have J2 := h_ (J.out.tn t2 (Nat.succ_ne_self b) i2); clear i2 t2)
  | (refine put1t rfl 4 (.tmp 1) (.const (.bool false)) rfl w0 (b + 1) 4 #[.bool false] J2.out 0 (.bool false) rfl rfl (by decide) one_info.2.2 rfl #[.bool false] rfl ?_; intro w3 j3 t3; have J3 := h_ j3; have I3 := h_ (I2.out.tn t3 (Nat.ne_of_lt (Nat.lt_succ_self b)) j3); clear j3 t3)
  | fail)
 simp only [bodyPostS]
 exact ⟨trivial, _, rfl, .tuple #[], by simp [results, Tryz.results88], rfl, rfl, I3.out, J3.out⟩
theorem rcatch_idle (p r : Addr) (w : World) :
  CallsD Tryz.prog 88 #[.pointer (some p), .pointer (some r)] .returning w fun e u' w' => e = .returned (.tuple #[]) ∧ u' = .returning ∧ w' = w := by
 refine callsD_of_wpS Tryz.func88 rfl fun c₀ cs hu => ?_
 apply wpS_seq
 apply wpS_region
 simp [wpOpsS, go_sem, recoverD, hu, Tryz.ntmps88, Exit.thenS]
 refine wpS_cond (t := false) (by simp [Act.eval, Array.replicate]) ?_
 simp only [Bool.false_eq_true, if_false]
 refine wpS_of_wp (wp_skip ?_)
 cases c₀
 simp_all [bodyPostS, results, Tryz.results88]
theorem rleave_stop {tmps : Array Value} {w w3 : World} {g : Nat} {ty : TypeId} {x : Value} (h4 : tmps.getD 4 undef = .pointer (some ⟨g, 0, none⟩)) (h5 : tmps.getD 5 undef = .pointer (some ⟨g + 1, 0, none⟩)) (i : OB w g 30 (uCells nilV U0) w3) (j : OB w (g + 1) 4 #[.bool false] w3) {R : Option Url} (hR : R = none) :
  bodyPostD Tryz.prog Tryz.f47 (ReadP w R) (Exit.panic [{ v := .iface ty x, recovered := false }])
   { tmps := tmps, defers := [{ target := .fn (.func 88) #[.pointer (some ⟨g, 0, none⟩), .pointer (some ⟨g + 1, 0, none⟩)], args := #[] }] } w3 := by
 subst hR
 refine leaves_cons (f := 88) (args := #[.pointer (some ⟨g, 0, none⟩), .pointer (some ⟨g + 1, 0, none⟩)]) (by simp) (by simp [go_sem]) ?_
 refine (rcatch_stop w g _ _ [] w3 i j).mono ?_
 rintro e u' w4 ⟨rfl, rfl, i4, j4⟩
 exact ⟨_, rd_res h4 h5 rfl i4 j4, rfl, i4.bel⟩
theorem rleave_ret {tmps : Array Value} {w w3 : World} {g : Nat} {pv : Value} {u : Url} (h4 : tmps.getD 4 undef = .pointer (some ⟨g, 0, none⟩)) (h5 : tmps.getD 5 undef = .pointer (some ⟨g + 1, 0, none⟩)) (h8 : u.host.six.length = 8) (i : OB w g 30 (uCells pv u) w3) (j : OB w (g + 1) 4 #[.bool true] w3) (o : w3.ownsRow w.heap.size 9 1 pv u.path.length (Strs u.path)) {R : Option Url} (hR : R = some u) :
  bodyPostD Tryz.prog Tryz.f47 (ReadP w R) Exit.ret
   { tmps := tmps, defers := [{ target := .fn (.func 88) #[.pointer (some ⟨g, 0, none⟩), .pointer (some ⟨g + 1, 0, none⟩)], args := #[] }] } w3 := by
 subst hR
 refine leaves_cons (f := 88) (args := #[.pointer (some ⟨g, 0, none⟩), .pointer (some ⟨g + 1, 0, none⟩)]) (by simp) (by simp [go_sem]) ?_
 refine (rcatch_idle _ _ w3).mono ?_
 rintro e u' w4 ⟨rfl, rfl, rfl⟩
 exact ⟨_, rd_res h4 h5 h8 i j, _, rfl, o, i.bel⟩
theorem uread_any (bu : Url) (bv : Value) (p : Prt) (w : World) (h8 : bu.host.six.length = 8) (hbv : Sl w.heap.size w bv (bu.path.map S)) (hbs : Bs bu.path) (hr : Rs p.rest) (hq : p.q.length <= 307200000) (hf : p.f.length <= 307200000) (hE : Env w) : Calls Tryz.prog 47 #[.agg (uCells bv bu), .agg (pCells p)] w (ReadP w (joinU bu p)) := by
 have hmf : ∀ (fn : Fn) (first cap : Array Value) (w : World), (Instr.makeFunc fn first cap).run Tryz.prog w = .ok (.func fn first cap) w := fun _ _ _ _ => rfl
 have HJ := h_ (fun W (hb : Below w.heap.size w W) => ujoin_any bu bv p W h8 ((hbv.below hb).more hb.size) hbs hr hq hf (hE.below hb))
 obtain ⟨R, hR⟩ := ex_ (joinU bu p)
 rw [<- hR] at HJ ⊢
 have HU8 := h_ (fun u (h : R = some u) => join_six h8 (hR.symm.trans h))
 have H8 := h_ h8
 clear hR h8 hbv hbs hr hq hf hE
 obtain ⟨w4, hw4, hz4, k1, k2, k3, k4⟩ := boxes4 w bv bu p
 have K1 := h_ k1; have K2 := h_ k2; have K3 := h_ k3; have K4 := h_ k4; have HZ := h_ hz4
 have HW4 := h_ hw4
 clear k1 k2 k3 k4 hz4 hw4
 cases R with
 | none =>
  have HC := h_ (fun W hb => (show Calls Tryz.prog 89 #[.agg (uCells bv bu), .agg (pCells p)] W fun e w' => e = NoN ∧ Below W.heap.size W w' from HJ.out W hb))
  go_enter_defers Tryz.func47, Tryz.ntmps47
  go_upto_region 1 with (first
   | (refine alloc_to rfl 30 rfl _ _ (allUrl _) ?_)
   | fail)
  rw [HW4.out]
  go_wp2_with (first
   | (refine getU rfl (.tmp 2) rfl w w.heap.size bv bu (OB.of K1.out (Nat.le_refl _) K3.out.bel) H8.out rfl ?_)
   | (refine getP rfl (.tmp 3) rfl (w.heap.size + 1) p K2.out rfl ?_)
   | (go_at_call 89; refine (HC.out _ K3.out.bel).mono ?_; rintro e w7 ⟨rfl, hb⟩; have I7 := h_ (K3.out.below hb); have J7 := h_ (K4.out.below hb); clear hb)
   | fail)
  exact rleave_stop rfl rfl I7.out J7.out rfl
 | some u =>
  have U8 := h_ (HU8.out u rfl)
  have HC := h_ (fun W hb => (show Calls Tryz.prog 89 #[.agg (uCells bv bu), .agg (pCells p)] W fun e w' => ∃ pv, e = .returned (.agg (uCells pv u)) ∧ w'.ownsRow W.heap.size 9 1 pv u.path.length (Strs u.path) ∧ Below W.heap.size W w' from HJ.out W hb))
  go_enter_defers Tryz.func47, Tryz.ntmps47
  go_upto_region 1 with (first
   | (refine alloc_to rfl 30 rfl _ _ (allUrl _) ?_)
   | fail)
  rw [HW4.out]
  go_wp2_with (first
   | (refine getU rfl (.tmp 2) rfl w w.heap.size bv bu (OB.of K1.out (Nat.le_refl _) K3.out.bel) H8.out rfl ?_)
   | (refine getP rfl (.tmp 3) rfl (w.heap.size + 1) p K2.out rfl ?_)
   | (go_at_call 89; refine (HC.out _ K3.out.bel).mono ?_; rintro e w7 ⟨pv, rfl, o7, hb⟩; have I7 := h_ (K3.out.below hb); have J7 := h_ (K4.out.below hb); have O7 := h_ o7; clear hb o7)
   | (refine putU rfl (.tmp 4) (.tmp 9) rfl w (w.heap.size + 2) I7.out pv u U8.out (own_one O7.out) rfl rfl ?_; intro w8 i8 t8; have I8 := h_ i8; have J8 := h_ (J7.out.tn t8 (by omega) i8); have O8 := h_ (t8.row O7.out (by rw [HZ.out]; omega)); clear i8 t8)
   | (refine put1t rfl 4 (.tmp 5) (.const (.bool true)) rfl w (w.heap.size + 3) 4 #[.bool false] J8.out 0 (.bool true) rfl rfl (by decide) one_info.2.2 rfl #[.bool true] rfl ?_; intro w9 j9 t9; have J9 := h_ j9; have I9 := h_ (I8.out.tn t9 (by omega) j9); have O9 := h_ (own_base (t9.row O8.out (by rw [HZ.out]; omega)) (show w.heap.size <= w4.heap.size by rw [HZ.out]; omega)); clear j9 t9)
   | fail)
  exact rleave_ret rfl rfl U8.out I9.out J9.out O9.out rfl

theorem clean_len (s : Bytes) : (cleanF s).length <= s.length := Nat.le_trans (tight_len _) (trimF_len _)
theorem split_len (s : Bytes) : (splitF s).rest.length <= s.length ∧ (splitF s).q.length <= s.length ∧ (splitF s).f.length <= s.length := by
 have a := cut1_len 35 s
 have b := cut1_len 63 (cut1 35 s).1
 have c := cut1_len 58 (cut1 63 (cut1 35 s).1).1
 unfold splitF
 dsimp only
 split <;> (dsimp only; omega)
theorem p_all (p : Prt) : (pCells p).all (·.oneCell') = true := all_oneCell_toArray (cs := (pCells p).toList) p_one
theorem ub_res {f : Func} {k m : Nat} (hf : f.results = #[.cell k 30, .tmp m]) {tmps : Array Value} {w0 w2 : World} {b : Nat} {pv : Value} {u : Url} {q : Bool} {Post : Ending -> World -> Prop} (h8 : u.host.six.length = 8) (hk : tmps.getD k undef = .pointer (some ⟨b, 0, none⟩)) (hm : tmps.getD m undef = .bool q)
  (i : OB w0 b 30 (uCells pv u) w2) (hP : Post (.returned (.tuple #[.agg (uCells pv u), .bool q])) w2) :
  bodyPost Tryz.prog f Post Exit.ret { tmps := tmps, defers := [] } w2 := by
 have h2' : tmps[k]?.getD undef = .pointer (some ⟨b, 0, none⟩) := by simpa using hk
 have h3' : tmps[m]?.getD undef = .bool q := by simpa using hm
 have hl := i.load (P := Tryz.prog) 30 _ Tryz.underlying30 rfl (by rw [u_size h8]; exact u_info)
 refine bodyPost_ret (v := .tuple #[.agg (uCells pv u), .bool q]) ?_ rfl hP
 simp [results, hf, asAddr, h2', h3', hl]
theorem uparse_any (s : Bytes) (w : World) (hs : s.length <= 1048576) (hE : Env w) : Calls Tryz.prog 44 #[.string (bs s)] w (ReadP w (readU s)) := by
 have hcl := clean_len s
 obtain ⟨p, hp⟩ := ex_ (splitF (cleanF s))
 have hsl := split_len (cleanF s)
 rw [<- hp] at hsl
 have hJ8 : ∀ u, joinU U0 p = some u -> u.host.six.length = 8 := fun u h => join_six (b := U0) rfl h
 obtain ⟨c, hc⟩ := ex_ (bs (cleanF s))
 have HCL := h_ (show ∀ W, Calls Tryz.prog 18 #[.string (bs s)] W fun e w' => e = .returned (.string c) ∧ Below W.heap.size W w' from fun W => by rw [hc]; exact clean_any s W (by omega))
 have HSP := h_ (show ∀ W, Below w.heap.size w W -> Calls Tryz.prog 17 #[.string c] W fun e w' => e = .returned (.agg (pCells p)) ∧ Below W.heap.size W w' from fun W hb => by rw [hc, hp]; exact split_any (cleanF s) W (by omega) (hE.below hb))
 have HRD := h_ (fun W (hb : Below w.heap.size w W) => uread_any U0 nilV p W rfl Sl.nil ⟨by simp [U0], by simp [U0]⟩ (rs_of (by omega)) (by omega) (by omega) (hE.below hb))
 obtain ⟨R, hR⟩ := ex_ (readU s)
 rw [<- hR]
 unfold readU at hR
 rw [<- hp] at hR
 obtain ⟨z, hz⟩ := ex_ (bs s)
 rw [<- hz] at HCL ⊢
 have HR := h_ hR
 have HJ8 := h_ hJ8
 clear hR hz hc hp hsl hcl hs hE hJ8
 go_enter Tryz.func44, Tryz.ntmps44
 go_upto_region 1 with (first
  | (refine alloc_to rfl 30 rfl _ _ (allUrl _) ?_)
  | fail)
 have IA := h_ (OB.fresh w 30 (uCells nilV U0))
 obtain ⟨w1, hw1⟩ := ex_ (w.alloc (.cells (uCells nilV U0) 30))
 rw [<- hw1] at IA ⊢
 clear hw1
 go_upto_region 2 with (first
  | (go_at_call 18; refine (HCL.out _).mono ?_; rintro e w2 ⟨rfl, hb⟩; have I2 := h_ (IA.out.below hb); clear hb)
  | (go_at_call 17; refine (HSP.out _ I2.out.bel).mono ?_; rintro e w3 ⟨rfl, hb⟩; have I3 := h_ (I2.out.below hb); clear hb)
  | (refine alloc_to rfl 35 rfl _ _ (allP _) ?_)
  | (refine storeC rfl 35 (.tmp 4) (.tmp 7) rfl (pCells p) (pCells P0) p_info rfl (p_all p) rfl rfl rfl ?_; intro w4 h4 hb; have X4 := h_ h4; have I4 := h_ (I3.out.below hb); clear h4 hb)
  | fail)
 have d0 := X4.out.cell_is (j := 0) (v := .bool p.hasS) rfl
 cases hS : p.hasS with
 | false =>
  rw [hS] at d0
  have HRA := h_ (show R = none by rw [HR.out, if_neg (by simp [hS])])
  clear hS
  go_wp2_with (first
   | (refine build_to rfl 30 #[] rfl (.agg (uCells nilV U0)) #[] rfl bldUrl0 ?_)
   | (refine putU rfl (.tmp 2) (.tmp 11) rfl w w.heap.size I4.out nilV U0 rfl rfl rfl rfl ?_; intro w5 i5 _; have I5 := h_ i5; clear i5)
   | fail)
  rw [HRA.out]
  exact ub_res (u := U0) (q := false) Tryz.results44 rfl rfl rfl I5.out ⟨rfl, I5.out.bel⟩
 | true =>
  rw [hS] at d0
  have HRB := h_ (show R = joinU U0 p by rw [HR.out, if_pos hS])
  clear hS
  cases hJ : joinU U0 p with
  | none =>
   have HRA := h_ (show R = none by rw [HRB.out, hJ])
   have HRC := h_ (fun W hb => (show Calls Tryz.prog 47 #[.agg (uCells nilV U0), .agg (pCells p)] W fun e w' => e = .returned (.tuple #[.agg (uCells nilV U0), .bool false]) ∧ Below W.heap.size W w' from by have h := HRD.out W hb; rw [hJ] at h; exact h))
   clear hJ
   go_wp2_with (first
    | (refine build_to rfl 30 #[] rfl (.agg (uCells nilV U0)) #[] rfl bldUrl0 ?_)
    | (refine getP rfl (.tmp 4) rfl w3.heap.size p X4.out rfl ?_)
    | (go_at_call 47; refine (HRC.out _ I4.out.bel).mono ?_; rintro e w5 ⟨rfl, hb⟩; have I5 := h_ (I4.out.below hb); clear hb)
    | (refine putU rfl (.tmp 2) (.tmp 15) rfl w w.heap.size I5.out nilV U0 rfl rfl rfl rfl ?_; intro w6 i6 _; have I6 := h_ i6; clear i6)
    | fail)
   rw [HRA.out]
   exact ub_res (u := U0) (q := false) Tryz.results44 rfl rfl rfl I6.out ⟨rfl, I6.out.bel⟩
  | some u =>
   have HRA := h_ (show R = some u by rw [HRB.out, hJ])
   have U8 := h_ (HJ8.out u hJ)
   have HRC := h_ (fun W hb => (show Calls Tryz.prog 47 #[.agg (uCells nilV U0), .agg (pCells p)] W fun e w' => ∃ pv, e = .returned (.tuple #[.agg (uCells pv u), .bool true]) ∧ w'.ownsRow W.heap.size 9 1 pv u.path.length (Strs u.path) ∧ Below W.heap.size W w' from by have h := HRD.out W hb; rw [hJ] at h; exact h))
   clear hJ
   go_wp2_with (first
    | (refine build_to rfl 30 #[] rfl (.agg (uCells nilV U0)) #[] rfl bldUrl0 ?_)
    | (refine getP rfl (.tmp 4) rfl w3.heap.size p X4.out rfl ?_)
    | (go_at_call 47; refine (HRC.out _ I4.out.bel).mono ?_; rintro e w5 ⟨pv, rfl, o5, hb⟩; have I5 := h_ (I4.out.below hb); have O5 := h_ (own_base o5 (show w.heap.size + 1 <= _ from I4.out.lt)); clear hb o5)
    | (refine putU rfl (.tmp 2) (.tmp 15) rfl w w.heap.size I5.out pv u U8.out (own_one O5.out) rfl rfl ?_; intro w6 i6 t6; have I6 := h_ i6; have O6 := h_ (own_base (t6.row O5.out (Nat.lt_succ_self _)) (Nat.le_succ _)); clear i6 t6)
    | fail)
   rw [HRA.out]
   exact ub_res (u := u) (q := true) Tryz.results44 U8.out rfl rfl I6.out ⟨pv, rfl, O6.out, I6.out.bel⟩

theorem own_ts {w : World} {base e : Nat} {v : Value} {l : List Bytes} (h : w.ownsRow base e 1 v l.length (Strs l)) : w.ownsRow base e 1 v (Strs l).length (Strs l) := by
 rw [show (Strs l).length = l.length from List.length_map _]; exact h
structure UOk (u : Url) : Prop where
 ok : UrlOk u
 sm : UrlSm u
 bs : u.path.length <= 307200000 ∧ ∀ x ∈ u.path, List.length x <= 1024000000
theorem UOk.six {u : Url} (h : UOk u) : u.host.six.length = 8 := h.ok.h.l
theorem UOk.b {u : Url} (h : UOk u) : Bs u.path := ⟨h.bs.1, h.bs.2⟩
theorem uwr_any (u : Url) (pv : Value) (w : World) (h : UOk u) (hs : Sl w.heap.size w pv (u.path.map S)) (hE : NE w) : Calls Tryz.prog 39 #[.agg (uCells pv u), .bool true] w fun e w' => e = .returned (S (serF u true)) ∧ Below w.heap.size w w' :=
 swr_any u (uCells pv u) pv true w (urlAt_of pv h.ok) hs h.sm hE
theorem uok_read {s : Bytes} {u : Url} (hs : s.length <= 1000) (h : readU s = some u) : UOk u := by
 have hl := ul_readU hs (by omega) h
 exact ⟨good_ok (readU_good h), ul_sm hl (Nat.le_refl _) (by omega), ul_bs hl (by omega)⟩
end Go.Proofs.YtpckaimpjccjhaaGreatDoor
