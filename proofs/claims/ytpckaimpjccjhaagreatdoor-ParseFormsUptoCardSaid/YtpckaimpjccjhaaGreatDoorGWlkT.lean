/- WlkT WlkU WlkV PrsK: joined. -/
import Derived.Test.YtpckaimpjccjhaaGreatDoorGWlkN
import Derived.Test.YtpckaimpjccjhaaGreatDoorGAthW
set_option maxHeartbeats 40000000
namespace Go.Proofs.YtpckaimpjccjhaaGreatDoor
open Go.RowKit
set_option maxRecDepth 10000
theorem hostP_six {l : Bytes} {sp : Bool} {g : Hst} (h : hostP l sp = some g) : g.six.length = 8 := (hkind_ok (hkind h)).l
theorem named_file_any (w0 : World) (b : Nat) (u : Url) (s : Bytes) (w : World) (i : OB w0 b 30 (uCells nilV u) w) (h8 : u.host.six.length = 8) (hs : s.length <= 307200000) (hA : Short (acutF true s).1) (hE : Env w) :
  Calls Tryz.prog 147 #[.pointer (some ⟨b, 0, none⟩), .string (bs s)] w (AskP w0 b w (namedU u s)) := by
 obtain ⟨R, hR⟩ := ex_ (namedU u s)
 rw [<- hR]
 unfold namedU at hR
 have hcu := fun W => acut_any s true W (by omega)
 have hcl := acut_len true s
 have hdr := fun W => drive_any (acutF true s).1 W (by omega)
 have hpo := fun W => pathOf_any u.sch (acutF true s).2 W (by omega)
 have hsg := fun W => sparse_any u.sch s [] nilV W Sl.nil hs (by simp) (by simp)
 have hho := fun W (h : Below w.heap.size w W) => hparse_any (acutF true s).1 true W hA (hE.below h)
 generalize acutF true s = C at *
 obtain ⟨c1, c2⟩ := C
 simp only at hR hcu hcl hdr hpo hho hA
 have H8 := h_ h8
 have II := h_ i
 obtain ⟨sc, hsc⟩ := ex_ (bs u.sch)
 obtain ⟨t, ht⟩ := ex_ (bs s)
 obtain ⟨k1, hk1⟩ := ex_ (bs c1)
 obtain ⟨k2, hk2⟩ := ex_ (bs c2)
 rw [<- hsc] at hpo hsg
 rw [<- ht] at hcu hsg ⊢
 rw [<- hk1] at hdr hho
 rw [<- hk2] at hpo
 have HCU := h_ (show ∀ W, Calls Tryz.prog 151 #[.string t, .bool true] W fun e w' => e = .returned (.tuple #[.string k1, .string k2]) ∧ Below W.heap.size W w' from by rw [hk1, hk2]; exact hcu)
 have HDR := h_ hdr
 have HPO := h_ hpo
 have HSG := h_ hsg
 have HSC := h_ hsc
 have HC0 := h_ (fun (W : World) (v : Value) (x : Url) (h1 : OB w0 b 30 (uCells v x) W) (h2 : x.host.six.length = 8) (h3 : x.sch = u.sch) => (show W.cell? ⟨b, 0, none⟩ = some (.string sc) from by rw [h1.cell_is (uAt v x h2).sch, h3, HSC.out]))
 have hk1e : k1.toList = [] ↔ c1 = [] := by rw [hk1, toList_bs]
 have HR := h_ hR
 have HBW := h_ i.lt
 obtain ⟨PS, hPS⟩ := ex_ (segP u.sch [] s)
 obtain ⟨PO, hPO⟩ := ex_ (pathF' u.sch c2)
 rw [<- hPS] at HSG HR
 rw [<- hPO] at HPO HR
 have c0 := HC0.out _ _ _ II.out H8.out rfl
 clear hR hcu hdr hpo hsg hsc ht hk1 hk2 hcl hs hA h8 i hPS hPO
 cases hD : driveF c1 with
 | true =>
  have HRA := h_ (show R = some { u with path := PS } by rw [HR.out, if_pos hD])
  rw [hD] at HDR
  clear hD hho hk1e
  go_enter Tryz.func147, Tryz.ntmps147
  go_upto_region 2 with (first
   | (go_at_call 151; refine (HCU.out _).mono ?_; rintro e w3 ⟨rfl, hb⟩; have I3 := h_ (II.out.below hb); have T3 := h_ (Tn.of_below (b := b) hb); have c3 := HC0.out _ _ _ (II.out.below hb) H8.out rfl; clear hb)
   | (go_at_call 97; refine (HDR.out _).mono ?_; rintro e w4 ⟨rfl, hw⟩; subst hw)
   | fail)
  go_wp2_with (first
   | (go_at_call 149; refine (HSG.out _).mono ?_; rintro e w5 ⟨pv, rfl, o, hb⟩; have I5 := h_ (I3.out.below hb); have O5 := h_ (own_st o); have T5 := h_ (T3.out.below hb); clear o hb)
   | (refine put1t rfl 28 (.tmp 23) (.tmp 21) rfl w0 b 30 (uCells nilV u) I5.out 18 pv rfl rfl (u_lt H8.out (by decide)) sl_info (own_one O5.out) (uCells pv { u with path := PS }) ((uPut nilV u H8.out).path _ _) ?_; intro w6 i1 t1; have I6 := h_ i1; have T6 := h_ (T5.out.trans t1); have O6 := h_ (t1.row O5.out I3.out.lt); clear i1 t1)
   | fail)
  go_end0
  rw [HRA.out]
  exact ⟨rfl, ⟨pv, I6.out, own_base O6.out T3.out.s⟩, T6.out⟩
 | false =>
  rw [hD] at HDR
  by_cases he : c1 = []
  ·have HRA := h_ (show R = some { u with path := PO } by rw [HR.out, if_neg (by simp [hD]), if_pos he])
   have he1 : k1.toList.isEmpty = true := by rw [hk1e.2 he]; rfl
   clear hD hho hk1e he
   go_enter Tryz.func147, Tryz.ntmps147
   go_upto_region 9 with (first
    | (go_at_call 151; refine (HCU.out _).mono ?_; rintro e w3 ⟨rfl, hb⟩; have I3 := h_ (II.out.below hb); have T3 := h_ (Tn.of_below (b := b) hb); have B3 := h_ hb; have c3 := HC0.out _ _ _ (II.out.below hb) H8.out rfl; clear hb)
    | (go_at_call 97; refine (HDR.out _).mono ?_; rintro e w4 ⟨rfl, hw⟩; subst hw)
    | fail)
   go_wp2_with (first
    | (go_at_call 153; refine (HPO.out _).mono ?_; rintro e w5 ⟨pv, rfl, o, hb⟩; have I5 := h_ (I3.out.below hb); have O5 := h_ (own_st o); have T5 := h_ (T3.out.below hb); clear o hb)
    | (refine put1t rfl 28 (.tmp 55) (.tmp 53) rfl w0 b 30 (uCells nilV u) I5.out 18 pv rfl rfl (u_lt H8.out (by decide)) sl_info (own_one O5.out) (uCells pv { u with path := PO }) ((uPut nilV u H8.out).path _ _) ?_; intro w6 i1 t1; have I6 := h_ i1; have T6 := h_ (T5.out.trans t1); have O6 := h_ (t1.row O5.out I3.out.lt); clear i1 t1)
    | fail)
   go_end0
   rw [HRA.out]
   exact ⟨rfl, ⟨pv, I6.out, own_base O6.out T3.out.s⟩, T6.out⟩
  ·have he1 : k1.toList.isEmpty = false := by
    have := fun h => he (hk1e.1 h)
    simpa using this
   cases hO : hostP c1 true with
   | none =>
    have HRA := h_ (show R = none by rw [HR.out, if_neg (by simp [hD]), if_neg he, hO])
    rw [hO] at hho
    have HHO := h_ (show ∀ W, Below w.heap.size w W -> Calls Tryz.prog 181 #[.string k1, .bool true] W fun e w' => e = .returned (.tuple #[.agg (hCells H0), .bool false]) ∧ Below W.heap.size W w' from hho)
    clear hD hho hk1e he hO
    go_enter Tryz.func147, Tryz.ntmps147
    go_wp2_with (first
     | (go_at_call 151; refine (HCU.out _).mono ?_; rintro e w3 ⟨rfl, hb⟩; have I3 := h_ (II.out.below hb); have T3 := h_ (Tn.of_below (b := b) hb); have B3 := h_ hb; have c3 := HC0.out _ _ _ (II.out.below hb) H8.out rfl; clear hb)
     | (go_at_call 97; refine (HDR.out _).mono ?_; rintro e w4 ⟨rfl, hw⟩; subst hw)
     | (go_at_call 181; refine (HHO.out _ B3.out).mono ?_; rintro e w5 ⟨rfl, hb⟩; have B5 := h_ hb; clear hb)
     | (refine alloc_to rfl 27 rfl _ _ (allH _) ?_)
     | (refine storeH rfl (.tmp 6) (.tmp 29) rfl H0 rfl rfl rfl rfl ?_; intro w6 hh hb; have B6 := h_ (stp B5.out hb); clear hh hb)
     | fail)
    refine ⟨rfl, ?_⟩
    rw [HRA.out]
    exact ⟨rfl, (I3.out.below B6.out).bel, T3.out.below B6.out⟩
   | some g =>
    have G8 := h_ (hostP_six hO)
    have HRC := h_ (show R = some { u with host := if g.kind = 2 ∧ g.name = [108, 111, 99, 97, 108, 104, 111, 115, 116] then u.host else g, path := PO } by rw [HR.out, if_neg (by simp [hD]), if_neg he, hO])
    rw [hO] at hho
    have HHO := h_ (show ∀ W, Below w.heap.size w W -> Calls Tryz.prog 181 #[.string k1, .bool true] W fun e w' => e = .returned (.tuple #[.agg (hCells g), .bool true]) ∧ Below W.heap.size W w' from hho)
    have HI := h_ (show (Tryz.prog.info? 27).map (·.size) = some (hstCells g).length by rw [host_info]; simp [hstCells, G8.out])
    clear hD hho hk1e he hO
    go_enter Tryz.func147, Tryz.ntmps147
    go_upto_region 7 with (first
     | (go_at_call 151; refine (HCU.out _).mono ?_; rintro e w3 ⟨rfl, hb⟩; have I3 := h_ (II.out.below hb); have T3 := h_ (Tn.of_below (b := b) hb); have B3 := h_ hb; have c3 := HC0.out _ _ _ (II.out.below hb) H8.out rfl; clear hb)
     | (go_at_call 97; refine (HDR.out _).mono ?_; rintro e w4 ⟨rfl, hw⟩; subst hw)
     | (go_at_call 181; refine (HHO.out _ B3.out).mono ?_; rintro e w5 ⟨rfl, hb⟩; have B5 := h_ hb; clear hb)
     | (refine alloc_to rfl 27 rfl _ _ (allH _) ?_)
     | (refine storeH rfl (.tmp 6) (.tmp 29) rfl g G8.out rfl rfl rfl ?_; intro w6 hh hb; have HH6 := h_ hh; have I6 := h_ (I3.out.below (stp B5.out hb)); have T6 := h_ (T3.out.below (stp B5.out hb)); clear hh hb)
     | fail)
    obtain ⟨bt, hbt⟩ := ex_ (w5.heap.size)
    rw [<- hbt] at HH6 ⊢
    clear hbt c0 c3
    have e0 : w6.cell? ⟨bt, 0, none⟩ = some (.int .i64 g.kind) := HH6.out.cell 0
    have e1 : w6.cell? ⟨bt, 1, none⟩ = some (.string (bs g.name)) := HH6.out.cell 1
    have c3 := HC0.out _ _ _ I6.out H8.out rfl
    have hnm := toList_bs g.name
    obtain ⟨nm, hnme⟩ := ex_ (bs g.name)
    rw [<- hnme] at hnm e1
    clear hnme
    by_cases hk : g.kind = 2
    ·by_cases hn : g.name = [108, 111, 99, 97, 108, 104, 111, 115, 116]
     ·have HRA := h_ (show R = some { u with path := PO } by rw [HRC.out, if_pos ⟨hk, hn⟩])
      have hl : (nm.toList == [108, 111, 99, 97, 108, 104, 111, 115, 116]) = true := by rw [hnm, hn]; rfl
      rw [hk] at e0
      clear hk hn hnm
      go_wp2_with (first
       | (go_at_call 153; refine (HPO.out _).mono ?_; rintro e w8 ⟨pv, rfl, o, hb⟩; have I8 := h_ (I6.out.below hb); have O8 := h_ (own_st o); have T8 := h_ (T6.out.below hb); clear o hb)
       | (refine put1t rfl 28 (.tmp 55) (.tmp 53) rfl w0 b 30 (uCells nilV u) I8.out 18 pv rfl rfl (u_lt H8.out (by decide)) sl_info (own_one O8.out) (uCells pv { u with path := PO }) ((uPut nilV u H8.out).path _ _) ?_; intro w9 i1 t1; have I9 := h_ i1; have T9 := h_ (T8.out.trans t1); have O9 := h_ (t1.row O8.out I6.out.lt); clear i1 t1)
       | fail)
      go_end0
      rw [HRA.out]
      exact ⟨rfl, ⟨pv, I9.out, own_base O9.out T6.out.s⟩, T9.out⟩
     ·have HRA := h_ (show R = some { { u with host := g } with path := PO } by rw [HRC.out, if_neg (fun h => hn h.2)])
      have hl : (nm.toList == [108, 111, 99, 97, 108, 104, 111, 115, 116]) = false := by rw [hnm]; simpa using hn
      rw [hk] at e0
      clear hk hn hnm
      go_upto_region 9 with (first
       | (refine loadH rfl (.tmp 6) rfl bt g HH6.out rfl ?_)
       | (refine putNt rfl 27 (.tmp 46) (.tmp 44) rfl w0 b 30 (uCells nilV u) I6.out 3 (hstCells g) rfl rfl (u_le3 H8.out G8.out) HI.out hst_one (uCells nilV { u with host := g }) (u_host nilV u g G8.out H8.out) ?_; intro w7 i1 t1; have I7 := h_ i1; have T7 := h_ (T6.out.trans t1); clear i1 t1)
       | fail)
      clear c3 e0 e1
      have c7 := HC0.out _ _ _ I7.out G8.out rfl
      go_wp2_with (first
       | (go_at_call 153; refine (HPO.out _).mono ?_; rintro e w8 ⟨pv, rfl, o, hb⟩; have I8 := h_ (I7.out.below hb); have O8 := h_ (own_st o); have T8 := h_ (T7.out.below hb); clear o hb)
       | (refine put1t rfl 28 (.tmp 55) (.tmp 53) rfl w0 b 30 (uCells nilV { u with host := g }) I8.out 18 pv rfl rfl (u_lt G8.out (by decide)) sl_info (own_one O8.out) (uCells pv { { u with host := g } with path := PO }) ((uPut nilV { u with host := g } G8.out).path _ _) ?_; intro w9 i1 t1; have I9 := h_ i1; have T9 := h_ (T8.out.trans t1); have O9 := h_ (t1.row O8.out I7.out.lt); clear i1 t1)
       | fail)
      go_end0
      rw [HRA.out]
      exact ⟨rfl, ⟨pv, I9.out, own_base O9.out T7.out.s⟩, T9.out⟩
    ·have HRA := h_ (show R = some { { u with host := g } with path := PO } by rw [HRC.out, if_neg (fun h => hk h.1)])
     obtain ⟨gk, hgk⟩ := ex_ (g.kind)
     rw [<- hgk] at e0 hk
     clear hnm hgk
     go_upto_region 9 with (first
      | (refine loadH rfl (.tmp 6) rfl bt g HH6.out rfl ?_)
      | (refine putNt rfl 27 (.tmp 46) (.tmp 44) rfl w0 b 30 (uCells nilV u) I6.out 3 (hstCells g) rfl rfl (u_le3 H8.out G8.out) HI.out hst_one (uCells nilV { u with host := g }) (u_host nilV u g G8.out H8.out) ?_; intro w7 i1 t1; have I7 := h_ i1; have T7 := h_ (T6.out.trans t1); clear i1 t1)
      | fail)
     clear c3 e0 e1
     have c7 := HC0.out _ _ _ I7.out G8.out rfl
     go_wp2_with (first
      | (go_at_call 153; refine (HPO.out _).mono ?_; rintro e w8 ⟨pv, rfl, o, hb⟩; have I8 := h_ (I7.out.below hb); have O8 := h_ (own_st o); have T8 := h_ (T7.out.below hb); clear o hb)
      | (refine put1t rfl 28 (.tmp 55) (.tmp 53) rfl w0 b 30 (uCells nilV { u with host := g }) I8.out 18 pv rfl rfl (u_lt G8.out (by decide)) sl_info (own_one O8.out) (uCells pv { { u with host := g } with path := PO }) ((uPut nilV { u with host := g } G8.out).path _ _) ?_; intro w9 i1 t1; have I9 := h_ i1; have T9 := h_ (T8.out.trans t1); have O9 := h_ (t1.row O8.out I7.out.lt); clear i1 t1)
      | fail)
     go_end0
     rw [HRA.out]
     exact ⟨rfl, ⟨pv, I9.out, own_base O9.out T7.out.s⟩, T9.out⟩

def fPath (b : Url) (rest : Bytes) : List Bytes := if (match b.path with | x :: _ => normF x | [] => false) = true ∧ startsF rest = false then b.path.take 1 else []
def fU2 (b : Url) (p : Prt) : Url := if b.sch = fileB then { startF fileB p with host := b.host } else { startF fileB p with host := { H0 with kind := 1 } }
theorem fileU_eq (b : Url) (p : Prt) : fileU b p = if 2 <= slN (spF fileB) p.rest then namedU { startF fileB p with host := { H0 with kind := 1 } } (p.rest.drop 2)
  else if slN (spF fileB) p.rest = 1 then some { fU2 b p with path := segP fileB (if b.sch = fileB then fPath b (p.rest.drop 1) else []) (p.rest.drop 1) }
  else if b.sch = fileB ∧ p.rest = [] then some (takeP (fU2 b p) b)
  else if b.sch = fileB ∧ startsF p.rest = false then some { fU2 b p with path := segP fileB (shortF fileB b.path) p.rest }
  else some { fU2 b p with path := segP fileB [] p.rest } := by
 unfold fileU fU2 fPath
 by_cases h : b.sch = fileB
 ·simp only [h, decide_true, if_true, true_and]
  rfl
 ·simp only [h, decide_false, if_false, false_and, Bool.false_eq_true]
theorem named_six {u v : Url} {s : Bytes} (hu : u.host.six.length = 8) (h : namedU u s = some v) : v.host.six.length = 8 := by
 unfold namedU at h
 dsimp only at h
 split at h
 ·cases h; exact hu
 ·split at h
  ·cases h; exact hu
  ·cases hO : hostP (acutF true s).1 true with
   | none => rw [hO] at h; cases h
   | some g =>
    rw [hO] at h
    cases h
    dsimp only
    split
    ·exact hu
    ·exact hostP_six hO
section
variable {P : Program} {ops : Array Oper} {rest : List Oper} {o : Oper} {a : Act} {w : World} {Q : Exit -> Act -> World -> Prop}
theorem loadMt (hgd : o.guard = none) (T : TypeId) (x : Operand) (ho : o.op = .load T x) (b k : Nat) (vs : List Value) (d : TypeDesc) (hu : P.underlying T = some d) (hd : d.isRow = true) (hi : (P.info? T).map (·.size) = some vs.length)
  (hx : a.eval x = .pointer (some ⟨b, k, none⟩)) (hr : w.rangeAt b k vs) (K : wpList P ops Q rest (a.put o.dst (.agg vs.toArray)) w) : wpList P ops Q (o :: rest) a w :=
 val_to hgd (.agg vs.toArray) (loadM_exec T x ho b k vs d hu hd hi hx hr) K
end
theorem sl_nil_is {B : Nat} {W : World} {v : Value} (h : Sl B W v (([] : List Bytes).map S)) : ∃ a c, v = .slice a 0 c := by
 obtain ⟨c, _, _, h⟩ := h
 rcases h with ⟨_, a, h⟩ | ⟨b, o, _, h, _⟩
 ·exact ⟨a, c, h⟩
 ·exact ⟨some ⟨b, o, none⟩, c, h⟩
theorem sl_cons_is {B : Nat} {W : World} {v : Value} {x : Bytes} {r : List Bytes} (h : Sl B W v ((x :: r).map S)) : ∃ b o m c, 0 < m ∧ v = .slice (some ⟨b, o, none⟩) m c ∧ W.cell? ⟨b, o, none⟩ = some (S x) := by
 obtain ⟨c, _, _, h⟩ := h
 rcases h with ⟨h, _⟩ | ⟨b, o, _, h, ha⟩
 ·cases h
 ·refine ⟨b, o, _, c, by simp, h, ?_⟩
  have := ha 0 (by simp)
  simpa using this
theorem bldS1 (x : Bytes) (w : World) : (Instr.buildSlice 28 1 #[(0, S x)]).run Tryz.prog w = .ok (.slice (some ⟨w.heap.size, 0, none⟩) 1 1) (w.alloc (.cells #[S x] 9)) := by kernel_rfl
section
variable {ops : Array Oper} {rest : List Oper} {o : Oper} {a : Act} {w : World} {Q : Exit -> Act -> World -> Prop}
theorem bslice1 (hg : o.guard = none) (y : Operand) (ho : o.op = .buildSlice 28 1 #[(0, y)]) (x : Bytes) (hy : a.eval y = S x)
  (h : ∀ b w', Below w.heap.size w w' -> Sl w'.heap.size w' (.slice (some ⟨b, 0, none⟩) 1 1) ([x].map S) -> wpList Tryz.prog ops Q rest (a.put o.dst (.slice (some ⟨b, 0, none⟩) 1 1)) w') : wpList Tryz.prog ops Q (o :: rest) a w := by
 refine wpList_plain hg fun K hK => ?_
 unfold Oper.wp execOp
 have e : (#[(0, y)] : Array (Nat × Operand)).map (fun (i, x) => (i, a.eval x)) = #[(0, S x)] := by simp [hy]
 simp only [ho, Sem.run_bind, Sem.run_pure, Result.andThen_ok, e, bldS1]
 refine hK _ _ (h _ _ ((Below.refl _ _).alloc (Nat.le_refl _) _) ?_)
 refine ⟨1, by simp, by unfold maxLen; omega, .inr ⟨w.heap.size, 0, by simp, by simp, fun j hj => ?_⟩⟩
 have h0 : j = 0 := by simpa using hj
 subst h0
 rw [World.cell?_alloc_mark]; rfl
end
theorem file_any (bu : Url) (bv : Value) (p : Prt) (w : World) (h8 : bu.host.six.length = 8) (hbv : Sl w.heap.size w bv (bu.path.map S)) (hbs : Bs bu.path) (hr : Rs p.rest) (hq : p.q.length <= 307200000) (hf : p.f.length <= 307200000) (hE : Env w) : Calls Tryz.prog 119 #[.agg (uCells bv bu), .agg (pCells p)] w (JoinP w (fileU bu p)) := by
 have hst := fun W => start_any fileB p W (by omega) (by omega)
 have hsl := fun W => slashes_any fileB p.rest W (by have := hr.l; omega)
 obtain ⟨us, hus⟩ := ex_ (startF fileB p)
 have h8s : us.host.six.length = 8 := by rw [hus]; rfl
 have hsc : us.sch = fileB := by rw [hus]; rfl
 have hup : us.path = [] := by rw [hus]; rfl
 have hho : { us with host := { us.host with kind := 1 } } = { us with host := { H0 with kind := 1 } } := by rw [hus]; rfl
 rw [<- hus] at hst
 obtain ⟨R, hR⟩ := ex_ (fileU bu p)
 rw [<- hR]
 rw [fileU_eq] at hR
 have hle := slN_le (spF fileB) p.rest
 have HE := h_ hE
 have HRS := h_ hr
 have H8 := h_ h8
 have HBV := h_ hbv
 have HBS := h_ hbs
 have HS8 := h_ h8s
 have HSC := h_ hsc
 have HUP := h_ hup
 have HHO := h_ hho
 have HU2 := h_ (show fU2 bu p = if bu.sch = fileB then { us with host := bu.host } else { us with host := { H0 with kind := 1 } } by unfold fU2; rw [hus])
 obtain ⟨u1, hu1⟩ : ∃ u1 : Url, u1 = { us with host := { H0 with kind := 1 } } := ⟨_, rfl⟩
 rw [<- hus, <- hu1] at hR
 have U18 := h_ (show u1.host.six.length = 8 by rw [hu1]; rfl)
 have U1S := h_ (show u1.sch = fileB by rw [hu1]; exact hsc)
 have U1P := h_ (show u1.path = [] by rw [hu1]; exact hup)
 have HU1 := h_ hu1
 generalize slN (spF fileB) p.rest = n at *
 have HSL := h_ hsl
 have HR := h_ hR
 have hbq := sEq bu.sch fileB
 obtain ⟨fs, hfs⟩ := ex_ (bs fileB)
 have HST := h_ (show ∀ W, Calls Tryz.prog 120 #[.string ⟨#[102, 105, 108, 101]⟩, .agg (pCells p)] W fun e w' => e = .returned (.agg (uCells nilV us)) ∧ Below W.heap.size W w' from hst)
 obtain ⟨bsc, hbsc⟩ := ex_ (bs bu.sch)
 have hbe : (bsc.toList == [102, 105, 108, 101]) = decide (bu.sch = fileB) := by rw [hbsc, <- hbq, toList_bs, toList_bs]; rfl
 have HBSC := h_ hbsc
 have HFS := h_ hfs
 obtain ⟨t, ht⟩ := ex_ (bs p.rest)
 have htz : t.size = p.rest.length := by rw [ht, bs_size]
 have HT := h_ ht
 have hex1 : t.extract 1 t.size = bs (p.rest.drop 1) := by rw [ht]; exact ext_all p.rest 1 _ (bs_size p.rest)
 have hex2 : t.extract 2 t.size = bs (p.rest.drop 2) := by rw [ht]; exact ext_all p.rest 2 _ (bs_size p.rest)
 obtain ⟨N, hN⟩ := ex_ (t.size)
 have htN : t.size = N := hN.symm
 rw [htN] at hex1 hex2
 have hnN : n <= N := by omega
 have HEX1 := h_ hex1
 have HEX2 := h_ hex2
 have HNN := h_ hnN
 have HTZ := h_ htz
 rw [<- hfs, <- ht] at hsl
 have HSL := h_ hsl
 clear h8 hbv hbs hr hq hf hE hsl h8s hsc hup hR hle hus ht hex1 hex2 hN hnN htz hho hu1 hst hbq hfs hbsc
 go_enter Tryz.func119, Tryz.ntmps119
 go_upto_region 1 with (first
  | (refine alloc_to rfl 30 rfl _ _ (allUrl _) ?_)
  | fail)
 obtain ⟨w3, hw3, hz3, hb, k1, k2, k3⟩ := three w bv bu p
 try rw [show ((w.alloc (.cells (uCells bv bu) 30)).alloc (.cells (pCells p) 35)).heap.size = w.heap.size + 2 by simp]
 rw [hw3]
 clear hw3
 obtain ⟨br, hbr⟩ := ex_ (w.heap.size + 2)
 obtain ⟨bx, hbx⟩ := ex_ (w.heap.size + 1)
 obtain ⟨bb, hbb⟩ := ex_ (w.heap.size)
 rw [<- hbr] at k3
 rw [<- hbx] at k2
 rw [<- hbb] at k1
 rw [<- hbr, <- hbx, <- hbb]
 have HLE := h_ (show w.heap.size <= br by omega)
 have HBB := h_ hbb
 have B3 := h_ hb
 have V3 := h_ k1
 have X3 := h_ k2
 have R3 := h_ k3
 have HD := h_ (show bb < bx ∧ bx < br by omega)
 clear hz3 hb k1 k2 k3 hbr hbx hbb
 have c0 := V3.out.cell_is (uAt bv bu H8.out).sch
 go_upto_region 2 with (first
  | (refine getP rfl (.tmp 3) rfl bx p X3.out rfl ?_)
  | (go_at_call 120; refine (HST.out _).mono ?_; rintro e w4 ⟨rfl, hb⟩; have HB4 := h_ hb; clear hb)
  | (refine alloc_to rfl 30 rfl _ _ (allUrl _) ?_)
  | (refine storeUrl rfl (.tmp 5) (.tmp 11) rfl nilV us HS8.out rfl rfl rfl rfl ?_; intro w5 hh hb; have I5 := h_ (OB.of (w0 := w) hh (Nat.le_trans B3.out.size HB4.out.size) (stp (stp B3.out HB4.out) hb)); have K5 := h_ (show K3 bb bx br w4.heap.size bv bu p w5 from ⟨(V3.out.keep HB4.out).keep hb, (X3.out.keep HB4.out).keep hb, (R3.out.keep HB4.out).keep hb, Nat.ne_of_lt (Nat.lt_of_lt_of_le V3.out.lt HB4.out.size), Nat.ne_of_lt (Nat.lt_of_lt_of_le X3.out.lt HB4.out.size), Nat.ne_of_lt (Nat.lt_of_lt_of_le R3.out.lt HB4.out.size)⟩); have HBB3 := h_ (show br < w4.heap.size + 1 from Nat.lt_succ_of_lt (Nat.lt_of_lt_of_le R3.out.lt HB4.out.size)); have HLB := h_ (show w.heap.size <= w4.heap.size + 1 from Nat.le_succ_of_le (Nat.le_trans B3.out.size HB4.out.size)); clear hh hb)
  | fail)
 obtain ⟨b, hbb⟩ := ex_ (w4.heap.size)
 rw [<- hbb] at I5 K5 HBB3 HLB ⊢
 clear c0 hbb
 go_upto_region 3 with (first
  | (refine put1t rfl 3 (.tmp 13) (.const (.int .i64 1)) rfl w b 30 (uCells nilV us) I5.out 3 (.int .i64 1) rfl rfl (u_lt HS8.out (by decide)) one_info.2.1 rfl (uCells nilV u1) (by rw [HU1.out, <- HHO.out]; exact (uPut nilV us HS8.out).kind 1) ?_; intro w6 i6 t6; have I6 := h_ i6; have K6 := h_ (K5.out.tn t6); clear i6 t6)
  | fail)
 have HBF := h_ hbe
 have SC := h_ (fun (W : World) (v : Value) (x : Url) (i : OB w b 30 (uCells v x) W) (h : x.host.six.length = 8) (hs : x.sch = fileB) (k : K3 bb bx br b bv bu p W) => (show W.cell? ⟨b, 0, none⟩ = some (.string fs) ∧ W.cell? ⟨bx, 2, none⟩ = some (.string t) ∧ W.cell? ⟨bb, 18, none⟩ = some bv ∧ W.cell? ⟨bb, 0, none⟩ = some (.string bsc) from ⟨by rw [i.cell_is (uAt v x h).sch, hs, HFS.out], by rw [HT.out]; exact k.cx.cell_is rfl, k.cb.cell_is (uAt bv bu H8.out).path, by rw [HBSC.out]; exact k.cb.cell_is (uAt bv bu H8.out).sch⟩))
 obtain ⟨d0, d2, d18, db⟩ := SC.out _ _ _ I6.out U18.out U1S.out K6.out
 by_cases hn : 2 <= n
 ·have HRA0 := h_ (show R = namedU u1 (p.rest.drop 2) by rw [HR.out, if_pos hn])
  have hni : (2 : Int) <= n := by omega
  have hN2 : 2 <= N := by have := HNN.out; omega
  have hN2i : (2 : Int) <= N := by omega
  have hex2 := HEX2.out
  obtain ⟨s2, hs2⟩ := ex_ (bs (p.rest.drop 2))
  rw [<- hs2] at hex2
  have HNA := h_ (fun W i => (show Calls Tryz.prog 147 #[.pointer (some ⟨b, 0, none⟩), .string s2] W (AskP w b W (namedU u1 (p.rest.drop 2))) from by rw [hs2]; exact named_file_any w b u1 (p.rest.drop 2) W i U18.out (by have := HRS.out.l; rw [List.length_drop]; omega) (HRS.out.n _ 2) (HE.out.below i.bel)))
  clear hn hs2 hbe
  generalize decide (bu.sch = fileB) = fr at *
  go_upto_region 6 with (first
   | (go_at_call 146; refine (HSL.out _).mono ?_; rintro e w7 ⟨rfl, hw⟩; subst hw)
   | fail)
  cases hO : namedU u1 (p.rest.drop 2) with
  | none =>
   have HRA := h_ (show R = none by rw [HRA0.out, hO])
   have HAN := h_ (fun W i => (show Calls Tryz.prog 147 #[.pointer (some ⟨b, 0, none⟩), .string s2] W fun e w' => e = NoN ∧ Below w.heap.size w w' ∧ Tn b W w' from by have h := HNA.out W i; rw [hO] at h; exact h))
   clear hO
   go_wp2_with (first
    | (go_at_call 147; refine (HAN.out _ I6.out).mono ?_; rintro e w7 ⟨rfl, hb, _⟩; have B7 := h_ hb; clear hb)
    | fail)
   rw [HRA.out]
   exact ⟨rfl, rfl, B7.out⟩
  | some u =>
   have HRA := h_ (show R = some u by rw [HRA0.out, hO])
   have HAN := h_ (fun W i => (show Calls Tryz.prog 147 #[.pointer (some ⟨b, 0, none⟩), .string s2] W fun e w' => e = .returned (.tuple #[]) ∧ (∃ pv, OB w b 30 (uCells pv u) w' ∧ w'.ownsRow W.heap.size 9 1 pv u.path.length (Strs u.path)) ∧ Tn b W w' from by have h := HNA.out W i; rw [hO] at h; exact h))
   have U8 := h_ (named_six U18.out hO)
   clear hO
   go_upto_region 7 with (first
    | (go_at_call 147; refine (HAN.out _ I6.out).mono ?_; rintro e w7 ⟨rfl, ⟨pv, i7, o7⟩, t7⟩; have I7 := h_ i7; have O7 := h_ (own_base o7 (show b + 1 <= _ from I6.out.lt)); have K7 := h_ (K6.out.tn t7); clear i7 o7 t7)
    | fail)
   go_wp2_with (first
    | (refine getU rfl (.tmp 5) rfl w b pv u I7.out U8.out rfl ?_)
    | (refine putU rfl (.tmp 4) (.tmp 28) rfl w br (OB.of K7.out.cr HLE.out I7.out.bel) pv u U8.out (own_one O7.out) rfl rfl ?_; intro wZ iZ tZ; have IZ := h_ iZ; have OZ := h_ (own_base (tZ.row O7.out HBB3.out) HLB.out); clear iZ tZ)
    | fail)
   rw [HRA.out]
   exact u_res (u := u) Tryz.results119 U8.out rfl IZ.out ⟨pv, rfl, OZ.out, IZ.out.bel⟩
 ·have HI := h_ (show (Tryz.prog.info? 27).map (·.size) = some (hstCells bu.host).length by rw [host_info]; simp [hstCells, H8.out])
  have hn01 : n = 1 ∨ n = 0 := by omega
  rcases hn01 with rfl | rfl
  ·obtain ⟨s1, hs1⟩ := ex_ (bs (p.rest.drop 1))
   have HSG := h_ (fun W (l : List Bytes) v (h : Sl W.heap.size W v (l.map S)) (h1 : l.length <= 1) (h2 : ∀ x ∈ l, x.length <= 1024000000) => (show Calls Tryz.prog 149 #[.string fs, v, .string s1] W (RetRow W 9 (Strs (segP fileB l (p.rest.drop 1)))) from by rw [HFS.out, hs1]; exact sparse_any fileB (p.rest.drop 1) l v W h (by have := HRS.out.l; rw [List.length_drop]; omega) (by omega) h2))
   have HSN := h_ (fun W => HSG.out W [] nilV Sl.nil (by simp) (fun _ h => (by cases h)))
   have HST1 := h_ (show ∀ W, Calls Tryz.prog 148 #[.string s1] W fun e w' => e = .returned (.bool (startsF (p.rest.drop 1))) ∧ w' = W from fun W => by rw [hs1]; exact starts_any (p.rest.drop 1) W (by have := HRS.out.l; rw [List.length_drop]; omega))
   have hN1 : 1 <= N := HNN.out
   have hN1i : (1 : Int) <= N := by omega
   have hex1 := HEX1.out
   rw [<- hs1] at hex1
   clear hs1
   by_cases hfr : bu.sch = fileB
   ·rw [decide_eq_true hfr] at hbe
    obtain ⟨u2, hu2⟩ := ex_ ({ u1 with host := bu.host })
    have U2 := h_ hu2
    have U28 := h_ (show u2.host.six.length = 8 by rw [hu2]; exact H8.out)
    have U2S := h_ (show u2.sch = fileB by rw [hu2]; exact U1S.out)
    have HRB := h_ (show R = some { u2 with path := segP fileB (fPath bu (p.rest.drop 1)) (p.rest.drop 1) } by rw [HR.out, if_neg hn, if_pos rfl, if_pos hfr, HU2.out, if_pos hfr, hu2, HU1.out])
    clear hfr hu2
    go_upto_region 12 with (first
     | (go_at_call 146; refine (HSL.out _).mono ?_; rintro e w7 ⟨rfl, hw⟩; subst hw)
     | (refine loadMt rfl 27 (.tmp 30) rfl bb 3 (hstCells bu.host) _ Tryz.underlying27 rfl HI.out rfl (fun j v hj => K6.out.cb.cell_is ((uAt bv bu H8.out).host j v hj)) ?_)
     | (refine putNt rfl 27 (.tmp 32) (.tmp 31) rfl w b 30 (uCells nilV u1) I6.out 3 (hstCells bu.host) rfl rfl (u_le3 U18.out H8.out) HI.out hst_one (uCells nilV u2) (by rw [U2.out]; exact u_host nilV u1 bu.host H8.out U18.out) ?_; intro w7 i7 t7; have I7 := h_ i7; have K7 := h_ (K6.out.tn t7); have e0 := (SC.out _ _ _ I7.out U28.out U2S.out K7.out).2.1; clear i7 t7)
     | fail)
    clear d0 d2 d18 db
    obtain ⟨d0, d2, d18, db⟩ := SC.out _ _ _ I7.out U28.out U2S.out K7.out
    have hbv7 := HBV.out.below I7.out.bel
    unfold fPath at HRB
    obtain ⟨lp, hlp⟩ := ex_ (bu.path)
    rw [<- hlp] at hbv7 HRB
    have HXL := h_ (show ∀ x ∈ lp, x.length <= 1024000000 from by rw [hlp]; exact HBS.out.all)
    clear hlp
    cases lp with
    | nil =>
     obtain ⟨ab, cb, rfl⟩ := sl_nil_is hbv7
     have HRA := h_ (show R = some { u2 with path := segP fileB [] (p.rest.drop 1) } by rw [HRB.out]; simp)
     clear hbv7
     go_upto_region 21 with (first
      | (go_at_call 149; refine (HSN.out _).mono ?_; rintro e w9 ⟨pv, rfl, o9, hb⟩; have O9 := h_ (own_base (own_st o9) (show b + 1 <= _ from I7.out.lt)); have I9 := h_ (I7.out.below hb); have K9 := h_ (K7.out.below hb); clear o9 hb)
      | (refine put1t rfl 28 (.tmp 74) (.tmp 73) rfl w b 30 (uCells nilV u2) I9.out 18 pv rfl rfl (u_lt U28.out (by decide)) sl_info (own_one O9.out) (uCells pv { u2 with path := segP fileB [] (p.rest.drop 1) }) ((uPut nilV u2 U28.out).path _ _) ?_; intro w10 i10 t10; have I10 := h_ i10; have K10 := h_ (K9.out.tn t10); have O10 := h_ (t10.row O9.out (Nat.lt_succ_self b)); clear i10 t10)
      | fail)
     go_wp2_with (first
      | (refine getU rfl (.tmp 5) rfl w b pv { u2 with path := segP fileB [] (p.rest.drop 1) } I10.out U28.out rfl ?_)
      | (refine putU rfl (.tmp 4) (.tmp 103) rfl w br (OB.of K10.out.cr HLE.out I10.out.bel) pv { u2 with path := segP fileB [] (p.rest.drop 1) } U28.out (own_one O10.out) rfl rfl ?_; intro wZ iZ tZ; have IZ := h_ iZ; have OZ := h_ (own_base (tZ.row O10.out HBB3.out) HLB.out); clear iZ tZ)
      | fail)
     rw [HRA.out]
     exact u_res (u := { u2 with path := segP fileB [] (p.rest.drop 1) }) Tryz.results119 U28.out rfl IZ.out ⟨pv, rfl, OZ.out, IZ.out.bel⟩
    | cons x r =>
     obtain ⟨qb, qo, qm, qc, hqm, rfl, hqx⟩ := sl_cons_is hbv7
     have hqi : (0 : Int) < qm := by omega
     have hnm := fun W => normal_any x W (HXL.out x (by simp))
     have HXL1 := h_ (HXL.out x (by simp))
     obtain ⟨xx, hxx⟩ := ex_ (bs x)
     rw [<- hxx] at hnm
     have hqx2 : w7.cell? ⟨qb, qo, none⟩ = some (.string xx) := by rw [hxx]; exact hqx
     have HXX := h_ hxx
     clear hbv7 hqx hxx
     have HRB2 := h_ (show R = some { u2 with path := segP fileB (if normF x = true ∧ startsF (p.rest.drop 1) = false then [x] else []) (p.rest.drop 1) } from HRB.out)
     cases hN : normF x with
     | false =>
      rw [hN] at hnm
      have HNM := h_ hnm
      have HRA := h_ (show R = some { u2 with path := segP fileB [] (p.rest.drop 1) } by rw [HRB2.out, if_neg (fun h => by rw [hN] at h; cases h.1)])
      clear hnm hN
      go_upto_region 21 with (first
       | (go_at_call 58; refine (HNM.out _).mono ?_; rintro e w8 ⟨rfl, hw⟩; subst hw)
       | (go_at_call 149; refine (HSN.out _).mono ?_; rintro e w9 ⟨pv, rfl, o9, hb⟩; have O9 := h_ (own_base (own_st o9) (show b + 1 <= _ from I7.out.lt)); have I9 := h_ (I7.out.below hb); have K9 := h_ (K7.out.below hb); clear o9 hb)
       | (refine put1t rfl 28 (.tmp 74) (.tmp 73) rfl w b 30 (uCells nilV u2) I9.out 18 pv rfl rfl (u_lt U28.out (by decide)) sl_info (own_one O9.out) (uCells pv { u2 with path := segP fileB [] (p.rest.drop 1) }) ((uPut nilV u2 U28.out).path _ _) ?_; intro w10 i10 t10; have I10 := h_ i10; have K10 := h_ (K9.out.tn t10); have O10 := h_ (t10.row O9.out (Nat.lt_succ_self b)); clear i10 t10)
       | fail)
      go_wp2_with (first
       | (refine getU rfl (.tmp 5) rfl w b pv { u2 with path := segP fileB [] (p.rest.drop 1) } I10.out U28.out rfl ?_)
       | (refine putU rfl (.tmp 4) (.tmp 103) rfl w br (OB.of K10.out.cr HLE.out I10.out.bel) pv { u2 with path := segP fileB [] (p.rest.drop 1) } U28.out (own_one O10.out) rfl rfl ?_; intro wZ iZ tZ; have IZ := h_ iZ; have OZ := h_ (own_base (tZ.row O10.out HBB3.out) HLB.out); clear iZ tZ)
       | fail)
      rw [HRA.out]
      exact u_res (u := { u2 with path := segP fileB [] (p.rest.drop 1) }) Tryz.results119 U28.out rfl IZ.out ⟨pv, rfl, OZ.out, IZ.out.bel⟩
     | true =>
      rw [hN] at hnm
      have HNM := h_ hnm
      cases hS : startsF (p.rest.drop 1) with
      | true =>
       rw [hS] at HST1
       have HRA := h_ (show R = some { u2 with path := segP fileB [] (p.rest.drop 1) } by rw [HRB2.out, if_neg (fun h => by rw [hS] at h; cases h.2)])
       clear hnm hN hS
       go_upto_region 21 with (first
        | (go_at_call 58; refine (HNM.out _).mono ?_; rintro e w8 ⟨rfl, hw⟩; subst hw)
        | (go_at_call 148; refine (HST1.out _).mono ?_; rintro e w8 ⟨rfl, hw⟩; subst hw)
        | (go_at_call 149; refine (HSN.out _).mono ?_; rintro e w9 ⟨pv, rfl, o9, hb⟩; have O9 := h_ (own_base (own_st o9) (show b + 1 <= _ from I7.out.lt)); have I9 := h_ (I7.out.below hb); have K9 := h_ (K7.out.below hb); clear o9 hb)
        | (refine put1t rfl 28 (.tmp 74) (.tmp 73) rfl w b 30 (uCells nilV u2) I9.out 18 pv rfl rfl (u_lt U28.out (by decide)) sl_info (own_one O9.out) (uCells pv { u2 with path := segP fileB [] (p.rest.drop 1) }) ((uPut nilV u2 U28.out).path _ _) ?_; intro w10 i10 t10; have I10 := h_ i10; have K10 := h_ (K9.out.tn t10); have O10 := h_ (t10.row O9.out (Nat.lt_succ_self b)); clear i10 t10)
        | fail)
       go_wp2_with (first
        | (refine getU rfl (.tmp 5) rfl w b pv { u2 with path := segP fileB [] (p.rest.drop 1) } I10.out U28.out rfl ?_)
        | (refine putU rfl (.tmp 4) (.tmp 103) rfl w br (OB.of K10.out.cr HLE.out I10.out.bel) pv { u2 with path := segP fileB [] (p.rest.drop 1) } U28.out (own_one O10.out) rfl rfl ?_; intro wZ iZ tZ; have IZ := h_ iZ; have OZ := h_ (own_base (tZ.row O10.out HBB3.out) HLB.out); clear iZ tZ)
        | fail)
       rw [HRA.out]
       exact u_res (u := { u2 with path := segP fileB [] (p.rest.drop 1) }) Tryz.results119 U28.out rfl IZ.out ⟨pv, rfl, OZ.out, IZ.out.bel⟩
      | false =>
       rw [hS] at HST1
       have HRA := h_ (show R = some { u2 with path := segP fileB [x] (p.rest.drop 1) } by rw [HRB2.out, if_pos ⟨hN, hS⟩])
       have HSX := h_ (fun W v h => HSG.out W [x] v h (by simp) (fun y hy => (List.mem_singleton.mp hy) ▸ HXL1.out))
       clear hnm hN hS
       go_upto_region 21 with (first
        | (go_at_call 58; refine (HNM.out _).mono ?_; rintro e w8 ⟨rfl, hw⟩; subst hw)
        | (go_at_call 148; refine (HST1.out _).mono ?_; rintro e w8 ⟨rfl, hw⟩; subst hw)
        | (refine bslice1 rfl (.tmp 67) rfl x (congrArg Value.string HXX.out) ?_; intro gb wB hb lx; have IB := h_ (I7.out.below hb); have KB := h_ (K7.out.below hb); have LX := h_ lx; have eB := (SC.out _ _ _ IB.out U28.out U2S.out KB.out).1; clear hb lx)
        | (go_at_call 149; refine (HSX.out _ _ LX.out).mono ?_; rintro e w9 ⟨pv, rfl, o9, hb⟩; have O9 := h_ (own_base (own_st o9) (show b + 1 <= _ from IB.out.lt)); have I9 := h_ (IB.out.below hb); have K9 := h_ (KB.out.below hb); clear o9 hb)
        | (refine put1t rfl 28 (.tmp 74) (.tmp 73) rfl w b 30 (uCells nilV u2) I9.out 18 pv rfl rfl (u_lt U28.out (by decide)) sl_info (own_one O9.out) (uCells pv { u2 with path := segP fileB [x] (p.rest.drop 1) }) ((uPut nilV u2 U28.out).path _ _) ?_; intro w10 i10 t10; have I10 := h_ i10; have K10 := h_ (K9.out.tn t10); have O10 := h_ (t10.row O9.out (Nat.lt_succ_self b)); clear i10 t10)
        | fail)
       go_wp2_with (first
        | (refine getU rfl (.tmp 5) rfl w b pv { u2 with path := segP fileB [x] (p.rest.drop 1) } I10.out U28.out rfl ?_)
        | (refine putU rfl (.tmp 4) (.tmp 103) rfl w br (OB.of K10.out.cr HLE.out I10.out.bel) pv { u2 with path := segP fileB [x] (p.rest.drop 1) } U28.out (own_one O10.out) rfl rfl ?_; intro wZ iZ tZ; have IZ := h_ iZ; have OZ := h_ (own_base (tZ.row O10.out HBB3.out) HLB.out); clear iZ tZ)
        | fail)
       rw [HRA.out]
       exact u_res (u := { u2 with path := segP fileB [x] (p.rest.drop 1) }) Tryz.results119 U28.out rfl IZ.out ⟨pv, rfl, OZ.out, IZ.out.bel⟩
   ·rw [decide_eq_false hfr] at hbe
    have HRA := h_ (show R = some { u1 with path := segP fileB [] (p.rest.drop 1) } by rw [HR.out, if_neg hn, if_pos rfl, if_neg hfr, HU2.out, if_neg hfr, HU1.out])
    clear hfr
    go_upto_region 21 with (first
     | (go_at_call 146; refine (HSL.out _).mono ?_; rintro e w7 ⟨rfl, hw⟩; subst hw)
     | (go_at_call 149; refine (HSN.out _).mono ?_; rintro e w9 ⟨pv, rfl, o9, hb⟩; have O9 := h_ (own_base (own_st o9) (show b + 1 <= _ from I6.out.lt)); have I9 := h_ (I6.out.below hb); have K9 := h_ (K6.out.below hb); clear o9 hb)
     | (refine put1t rfl 28 (.tmp 74) (.tmp 73) rfl w b 30 (uCells nilV u1) I9.out 18 pv rfl rfl (u_lt U18.out (by decide)) sl_info (own_one O9.out) (uCells pv { u1 with path := segP fileB [] (p.rest.drop 1) }) ((uPut nilV u1 U18.out).path _ _) ?_; intro w10 i10 t10; have I10 := h_ i10; have K10 := h_ (K9.out.tn t10); have O10 := h_ (t10.row O9.out (Nat.lt_succ_self b)); clear i10 t10)
     | fail)
    go_wp2_with (first
     | (refine getU rfl (.tmp 5) rfl w b pv { u1 with path := segP fileB [] (p.rest.drop 1) } I10.out U18.out rfl ?_)
     | (refine putU rfl (.tmp 4) (.tmp 103) rfl w br (OB.of K10.out.cr HLE.out I10.out.bel) pv { u1 with path := segP fileB [] (p.rest.drop 1) } U18.out (own_one O10.out) rfl rfl ?_; intro wZ iZ tZ; have IZ := h_ iZ; have OZ := h_ (own_base (tZ.row O10.out HBB3.out) HLB.out); clear iZ tZ)
     | fail)
    rw [HRA.out]
    exact u_res (u := { u1 with path := segP fileB [] (p.rest.drop 1) }) Tryz.results119 U18.out rfl IZ.out ⟨pv, rfl, OZ.out, IZ.out.bel⟩
  ·have HSG := h_ (fun W (l : List Bytes) v (h : Sl W.heap.size W v (l.map S)) (h1 : l.length <= 307200000) (h2 : ∀ x ∈ l, x.length <= 1024000000) => (show Calls Tryz.prog 149 #[.string fs, v, .string t] W (RetRow W 9 (Strs (segP fileB l p.rest))) from by rw [HFS.out, HT.out]; exact sparse_any fileB p.rest l v W h HRS.out.l h1 h2))
   have HSN := h_ (fun W => HSG.out W [] nilV Sl.nil (by simp) (fun _ h => (by cases h)))
   have HST1 := h_ (show ∀ W, Calls Tryz.prog 148 #[.string t] W fun e w' => e = .returned (.bool (startsF p.rest)) ∧ w' = W from fun W => by rw [HT.out]; exact starts_any p.rest W (by have := HRS.out.l; omega))
   by_cases hfr : bu.sch = fileB
   ·rw [decide_eq_true hfr] at hbe
    obtain ⟨u2, hu2⟩ := ex_ ({ u1 with host := bu.host })
    have U2 := h_ hu2
    have U28 := h_ (show u2.host.six.length = 8 by rw [hu2]; exact H8.out)
    have U2S := h_ (show u2.sch = fileB by rw [hu2]; exact U1S.out)
    have HRB := h_ (show R = if p.rest = [] then some (takeP u2 bu) else if startsF p.rest = false then some { u2 with path := segP fileB (shortF fileB bu.path) p.rest } else some { u2 with path := segP fileB [] p.rest } by
     rw [HR.out, if_neg hn, if_neg (by omega)]
     have e : fU2 bu p = u2 := by rw [HU2.out, if_pos hfr, hu2, HU1.out]
     rw [e]
     simp only [hfr, true_and])
    clear hfr hu2
    go_upto_region 17 with (first
     | (go_at_call 146; refine (HSL.out _).mono ?_; rintro e w7 ⟨rfl, hw⟩; subst hw)
     | (refine loadMt rfl 27 (.tmp 30) rfl bb 3 (hstCells bu.host) _ Tryz.underlying27 rfl HI.out rfl (fun j v hj => K6.out.cb.cell_is ((uAt bv bu H8.out).host j v hj)) ?_)
     | (refine putNt rfl 27 (.tmp 32) (.tmp 31) rfl w b 30 (uCells nilV u1) I6.out 3 (hstCells bu.host) rfl rfl (u_le3 U18.out H8.out) HI.out hst_one (uCells nilV u2) (by rw [U2.out]; exact u_host nilV u1 bu.host H8.out U18.out) ?_; intro w7 i7 t7; have I7 := h_ i7; have K7 := h_ (K6.out.tn t7); have e0 := (SC.out _ _ _ I7.out U28.out U2S.out K7.out).2.1; clear i7 t7)
     | fail)
    clear d0 d2 d18 db
    obtain ⟨d0, d2, d18, db⟩ := SC.out _ _ _ I7.out U28.out U2S.out K7.out
    by_cases hrest : p.rest = []
    ·have HRA := h_ (show R = some (takeP u2 bu) by rw [HRB.out, if_pos hrest])
     have U28P := h_ (show (takeP u2 bu).host.six.length = 8 by rw [takeP_host]; exact U28.out)
     have he1 : t.toList.isEmpty = true := by rw [HT.out, toList_bs, hrest]; rfl
     clear hrest
     go_upto_region 21 with (first
      | (refine getU rfl (.tmp 2) rfl w bb bv bu (OB.of K7.out.cb (Nat.le_of_eq HBB.out.symm) I7.out.bel) H8.out rfl ?_)
      | (go_at_call 150; refine (takePath_any w b nilV bv u2 bu _ I7.out U28.out H8.out ((HBV.out.below I7.out.bel).more I7.out.bel.size) (by have := HBS.out.le; omega)).mono ?_; rintro e w8 ⟨rfl, pv, i8, o8, t8⟩; have I8 := h_ i8; have O8 := h_ (own_base o8 (show b + 1 <= _ from I7.out.lt)); have K8 := h_ (K7.out.tn t8); clear i8 o8 t8)
      | fail)
     go_wp2_with (first
      | (refine getU rfl (.tmp 5) rfl w b pv (takeP u2 bu) I8.out U28P.out rfl ?_)
      | (refine putU rfl (.tmp 4) (.tmp 103) rfl w br (OB.of K8.out.cr HLE.out I8.out.bel) pv (takeP u2 bu) U28P.out (own_one O8.out) rfl rfl ?_; intro wZ iZ tZ; have IZ := h_ iZ; have OZ := h_ (own_base (tZ.row O8.out HBB3.out) HLB.out); clear iZ tZ)
      | fail)
     rw [HRA.out]
     exact u_res (u := (takeP u2 bu)) Tryz.results119 U28P.out rfl IZ.out ⟨pv, rfl, by rw [takeP_path]; exact OZ.out, IZ.out.bel⟩
    ·have he1 : t.toList.isEmpty = false := by
      have : ¬ t.toList = [] := by rw [HT.out, toList_bs]; exact hrest
      simpa using this
     cases hS : startsF p.rest with
     | true =>
      rw [hS] at HST1
      have HRA := h_ (show R = some { u2 with path := segP fileB [] p.rest } by rw [HRB.out, if_neg hrest, if_neg (by simp [hS])])
      clear hrest hS
      go_upto_region 21 with (first
       | (go_at_call 148; refine (HST1.out _).mono ?_; rintro e w8 ⟨rfl, hw⟩; subst hw)
       | (go_at_call 149; refine (HSN.out _).mono ?_; rintro e w9 ⟨pv, rfl, o9, hb⟩; have O9 := h_ (own_base (own_st o9) (show b + 1 <= _ from I7.out.lt)); have I9 := h_ (I7.out.below hb); have K9 := h_ (K7.out.below hb); clear o9 hb)
       | (refine put1t rfl 28 (.tmp 38) (.tmp 37) rfl w b 30 (uCells nilV u2) I9.out 18 pv rfl rfl (u_lt U28.out (by decide)) sl_info (own_one O9.out) (uCells pv { u2 with path := segP fileB [] p.rest }) ((uPut nilV u2 U28.out).path _ _) ?_; intro w10 i10 t10; have I10 := h_ i10; have K10 := h_ (K9.out.tn t10); have O10 := h_ (t10.row O9.out (Nat.lt_succ_self b)); clear i10 t10)
       | fail)
      go_wp2_with (first
       | (refine getU rfl (.tmp 5) rfl w b pv { u2 with path := segP fileB [] p.rest } I10.out U28.out rfl ?_)
       | (refine putU rfl (.tmp 4) (.tmp 103) rfl w br (OB.of K10.out.cr HLE.out I10.out.bel) pv { u2 with path := segP fileB [] p.rest } U28.out (own_one O10.out) rfl rfl ?_; intro wZ iZ tZ; have IZ := h_ iZ; have OZ := h_ (own_base (tZ.row O10.out HBB3.out) HLB.out); clear iZ tZ)
       | fail)
      rw [HRA.out]
      exact u_res (u := { u2 with path := segP fileB [] p.rest }) Tryz.results119 U28.out rfl IZ.out ⟨pv, rfl, OZ.out, IZ.out.bel⟩
     | false =>
      rw [hS] at HST1
      have HRA := h_ (show R = some { u2 with path := segP fileB (shortF fileB bu.path) p.rest } by rw [HRB.out, if_neg hrest, if_pos hS])
      have HSHO := h_ (fun W (h : Sl W.heap.size W bv (bu.path.map S)) => (show Calls Tryz.prog 26 #[.string fs, bv] W (RetRow W 9 (Strs (shortF fileB bu.path))) from by rw [HFS.out]; exact shorten_any fileB bu.path bv W h (by have := HBS.out.le; omega) HBS.out.all))
      have HSY := h_ (fun W v h => HSG.out W (shortF fileB bu.path) v h (by have := short_len fileB bu.path; have := HBS.out.le; omega) (fun x hx => HBS.out.all x (short_mem hx)))
      obtain ⟨PP, hPP⟩ := ex_ (segP fileB (shortF fileB bu.path) p.rest)
      rw [<- hPP] at HSY HRA
      clear hrest hS hPP
      go_upto_region 20 with (first
       | (go_at_call 148; refine (HST1.out _).mono ?_; rintro e w8 ⟨rfl, hw⟩; subst hw)
       | fail)
      clear d0 d2 d18 db
      have I8 := h_ (I7.out.below (bz_drew (bz_refl _)))
      have K8 := h_ (K7.out.below (bz_drew (bz_refl _)))
      have SC3 := h_ (fun (W : World) (v : Value) (x : Url) (i : OB w b 30 (uCells v x) W) (h : x.host.six.length = 8) (hs : x.sch = fileB) (k : K3 bb bx br b bv bu p W) => (show W.cell? ⟨b, 0, none⟩ = some (.string fs) ∧ W.cell? ⟨bx, 2, none⟩ = some (.string t) ∧ W.cell? ⟨bb, 18, none⟩ = some bv from ⟨(SC.out W v x i h hs k).1, (SC.out W v x i h hs k).2.1, (SC.out W v x i h hs k).2.2.1⟩))
      have CS8 := h_ (SC3.out _ _ _ I8.out U28.out U2S.out K8.out)
      refine wp_region_held_drew (S := fun W => W.cell? ⟨b, 0, none⟩ = some (.string fs) ∧ W.cell? ⟨bx, 2, none⟩ = some (.string t) ∧ W.cell? ⟨bb, 18, none⟩ = some bv) (by kernel_rfl) (by with_reducible first | exact CS11.out | exact CS10.out | exact CS9.out | exact CS8.out) (fun hHeld => ?_)
      refine tk 0 (v := ?_) rfl (by kernel_rfl) (by kernel_rfl) (by kernel_rfl) (fun _ _ _ h => h) (by rfl) (by assumption) (fun wS hSw => ?_) ?_
      rotate_left
      ·(try dsimp only at hSw); go_simp; first | done | with_reducible rfl
      try simp only [Act.put, List.setIfInBounds_toArray, List.set_cons_zero, List.set_cons_succ]
      refine tk 1 (v := ?_) rfl (by kernel_rfl) (by kernel_rfl) (by kernel_rfl) (fun _ _ _ h => h) (by rfl) (by assumption) (fun wS hSw => ?_) ?_
      rotate_left
      ·(try dsimp only at hSw)
       refine load1_exec 9 (.tmp 92) ?_ b 0 (.string fs) _ Tryz.underlying9 rfl ?_ ?_
       ·rfl
       ·rfl
       ·exact hSw.1
      try simp only [Act.put, List.setIfInBounds_toArray, List.set_cons_zero, List.set_cons_succ]
      refine tk 2 (v := ?_) rfl (by kernel_rfl) (by kernel_rfl) (by kernel_rfl) (fun _ _ _ h => h) (by rfl) (by assumption) (fun wS hSw => ?_) ?_
      rotate_left
      ·(try dsimp only at hSw); go_simp; first | done | with_reducible rfl
      try simp only [Act.put, List.setIfInBounds_toArray, List.set_cons_zero, List.set_cons_succ]
      refine tk 3 (v := ?_) rfl (by kernel_rfl) (by kernel_rfl) (by kernel_rfl) (fun _ _ _ h => h) (by rfl) (by assumption) (fun wS hSw => ?_) ?_
      rotate_left
      ·(try dsimp only at hSw)
       refine load1_exec 9 (.tmp 94) ?_ b 0 (.string fs) _ Tryz.underlying9 rfl ?_ ?_
       ·rfl
       ·rfl
       ·exact hSw.1
      try simp only [Act.put, List.setIfInBounds_toArray, List.set_cons_zero, List.set_cons_succ]
      refine tk 4 (v := ?_) rfl (by kernel_rfl) (by kernel_rfl) (by kernel_rfl) (fun _ _ _ h => h) (by rfl) (by assumption) (fun wS hSw => ?_) ?_
      rotate_left
      ·(try dsimp only at hSw); go_simp; first | done | with_reducible rfl
      try simp only [Act.put, List.setIfInBounds_toArray, List.set_cons_zero, List.set_cons_succ]
      refine tk 5 (v := ?_) rfl (by kernel_rfl) (by kernel_rfl) (by kernel_rfl) (fun _ _ _ h => h) (by rfl) (by assumption) (fun wS hSw => ?_) ?_
      rotate_left
      ·(try dsimp only at hSw)
       refine load1_exec 28 (.tmp 96) ?_ bb 18 bv _ Tryz.underlying28 rfl ?_ ?_
       ·rfl
       ·rfl
       ·exact hSw.2.2
      try simp only [Act.put, List.setIfInBounds_toArray, List.set_cons_zero, List.set_cons_succ]
      refine tk 7 (v := ?_) rfl (by kernel_rfl) (by kernel_rfl) (by kernel_rfl) (fun _ _ _ h => h) (by rfl) (by assumption) (fun wS hSw => ?_) ?_
      rotate_left
      ·(try dsimp only at hSw); go_simp; first | done | with_reducible rfl
      try simp only [Act.put, List.setIfInBounds_toArray, List.set_cons_zero, List.set_cons_succ]
      refine tk 8 (v := ?_) rfl (by kernel_rfl) (by kernel_rfl) (by kernel_rfl) (fun _ _ _ h => h) (by rfl) (by assumption) (fun wS hSw => ?_) ?_
      rotate_left
      ·(try dsimp only at hSw)
       refine load1_exec 9 (.tmp 99) ?_ bx 2 (.string t) _ Tryz.underlying9 rfl ?_ ?_
       ·rfl
       ·rfl
       ·exact hSw.2.1
      try simp only [Act.put, List.setIfInBounds_toArray, List.set_cons_zero, List.set_cons_succ]
      refine rn 6 (by kernel_rfl) rfl (by rfl) (fun K hK => ?_)
      go_simp
      refine (HSHO.out _ ((HBV.out.below I8.out.bel).more I8.out.bel.size)).mono ?_
      rintro e w9 ⟨sv, rfl, o9, hb⟩
      have O9 := h_ (Sl.of_own o9); have I9 := h_ (I8.out.below hb); have K9 := h_ (K8.out.below hb)
      have CS9 := h_ (SC3.out _ _ _ I9.out U28.out U2S.out K9.out)
      clear o9 hb
      refine hK.out _ _ ?_ (fun hHeld => ?_)
      ·with_reducible first | exact CS11.out | exact CS10.out | exact CS9.out | exact CS8.out
      clear hK K
      try simp only [Act.put, List.setIfInBounds_toArray, List.set_cons_zero, List.set_cons_succ]
      refine rn 9 (by kernel_rfl) rfl (by rfl) (fun K hK => ?_)
      go_simp
      refine (HSY.out _ _ O9.out).mono ?_
      rintro e w10 ⟨pv, rfl, o10, hb⟩
      have O10 := h_ (own_base (own_st o10) (show b + 1 <= _ from I9.out.lt)); have I10 := h_ (I9.out.below hb); have K10 := h_ (K9.out.below hb)
      have CS10 := h_ (SC3.out _ _ _ I10.out U28.out U2S.out K10.out)
      clear o10 hb
      refine hK.out _ _ ?_ (fun hHeld => ?_)
      ·with_reducible first | exact CS11.out | exact CS10.out | exact CS9.out | exact CS8.out
      clear hK K
      try simp only [Act.put, List.setIfInBounds_toArray, List.set_cons_zero, List.set_cons_succ]
      refine tk 10 (v := ?_) rfl (by kernel_rfl) (by kernel_rfl) (by kernel_rfl) (fun _ _ _ h => h) (by rfl) (by assumption) (fun wS hSw => ?_) ?_
      rotate_left
      ·(try dsimp only at hSw); go_simp; first | done | with_reducible rfl
      try simp only [Act.put, List.setIfInBounds_toArray, List.set_cons_zero, List.set_cons_succ]
      refine rn 11 (by kernel_rfl) rfl (by rfl) (fun K hK => ?_)
      refine put1_wp 28 (.tmp 102) (.tmp 101) rfl w b 30 (uCells nilV u2) I10.out 18 pv rfl rfl (u_lt U28.out (by decide)) sl_info (own_one O10.out) (uCells pv { u2 with path := PP }) ((uPut nilV u2 U28.out).path _ _) ?_
      intro w11 i11 t11
      have I11 := h_ i11; have K11 := h_ (K10.out.tn t11); have O11 := h_ (t11.row O10.out (Nat.lt_succ_self b))
      have CS11 := h_ (SC3.out _ _ { u2 with path := PP } I11.out U28.out U2S.out K11.out)
      clear i11 t11
      refine hK.out _ _ ?_ (fun hHeld => ?_)
      ·with_reducible first | exact CS11.out | exact CS10.out | exact CS9.out | exact CS8.out
      clear hK K
      try simp only [Act.put]
      refine wpAnyH_done (by kernel_rfl) ?_ _
      go_wp2_with (first
       | (refine getU rfl (.tmp 5) rfl w b pv { u2 with path := PP } I11.out U28.out rfl ?_)
       | (refine putU rfl (.tmp 4) (.tmp 103) rfl w br (OB.of K11.out.cr HLE.out I11.out.bel) pv { u2 with path := PP } U28.out (own_one O11.out) rfl rfl ?_; intro wZ iZ tZ; have IZ := h_ iZ; have OZ := h_ (own_base (tZ.row O11.out HBB3.out) HLB.out); clear iZ tZ)
       | fail)
      rw [HRA.out]
      exact u_res (u := { u2 with path := PP }) Tryz.results119 U28.out rfl IZ.out ⟨pv, rfl, OZ.out, IZ.out.bel⟩
   ·rw [decide_eq_false hfr] at hbe
    have HRA := h_ (show R = some { u1 with path := segP fileB [] p.rest } by rw [HR.out, if_neg hn, if_neg (by omega), if_neg (fun h => hfr h.1), if_neg (fun h => hfr h.1), HU2.out, if_neg hfr, HU1.out])
    clear hfr
    go_upto_region 21 with (first
     | (go_at_call 146; refine (HSL.out _).mono ?_; rintro e w7 ⟨rfl, hw⟩; subst hw)
     | (go_at_call 149; refine (HSN.out _).mono ?_; rintro e w9 ⟨pv, rfl, o9, hb⟩; have O9 := h_ (own_base (own_st o9) (show b + 1 <= _ from I6.out.lt)); have I9 := h_ (I6.out.below hb); have K9 := h_ (K6.out.below hb); clear o9 hb)
     | (refine put1t rfl 28 (.tmp 38) (.tmp 37) rfl w b 30 (uCells nilV u1) I9.out 18 pv rfl rfl (u_lt U18.out (by decide)) sl_info (own_one O9.out) (uCells pv { u1 with path := segP fileB [] p.rest }) ((uPut nilV u1 U18.out).path _ _) ?_; intro w10 i10 t10; have I10 := h_ i10; have K10 := h_ (K9.out.tn t10); have O10 := h_ (t10.row O9.out (Nat.lt_succ_self b)); clear i10 t10)
     | fail)
    go_wp2_with (first
     | (refine getU rfl (.tmp 5) rfl w b pv { u1 with path := segP fileB [] p.rest } I10.out U18.out rfl ?_)
     | (refine putU rfl (.tmp 4) (.tmp 103) rfl w br (OB.of K10.out.cr HLE.out I10.out.bel) pv { u1 with path := segP fileB [] p.rest } U18.out (own_one O10.out) rfl rfl ?_; intro wZ iZ tZ; have IZ := h_ iZ; have OZ := h_ (own_base (tZ.row O10.out HBB3.out) HLB.out); clear iZ tZ)
     | fail)
    rw [HRA.out]
    exact u_res (u := { u1 with path := segP fileB [] p.rest }) Tryz.results119 U18.out rfl IZ.out ⟨pv, rfl, OZ.out, IZ.out.bel⟩

section
variable {b : Url} {p : Prt} {u : Url}
theorem jn_file1 (h1 : p.hasS = true) (h2 : p.sch = fileB) : joinU b p = fileU b p := by unfold joinU; rw [if_pos (.inl ⟨h1, h2⟩)]
theorem jn_file2 (h1 : p.hasS = false) (h2 : b.opq = false) (h3 : b.sch = fileB) : joinU b p = fileU b p := by unfold joinU; rw [if_pos (.inr ⟨h1, h2, h3⟩)]
theorem jn_no1 (h1 : p.hasS = true) (h2 : p.sch ≠ fileB) : ¬ ((p.hasS = true ∧ p.sch = fileB) ∨ (p.hasS = false ∧ b.opq = false ∧ b.sch = fileB)) := by
 rintro (h | h)
 ·exact h2 h.2
 ·rw [h1] at h; cases h.1
theorem jn_ask (h1 : p.hasS = true) (h2 : p.sch ≠ fileB) (h3 : spF p.sch = true) (h4 : p.sch ≠ b.sch ∨ p.rest.take 2 = [47, 47]) : joinU b p = askF (startF p.sch p) (p.rest.drop (slN (spF p.sch) p.rest)) := by
 unfold joinU; rw [if_neg (jn_no1 h1 h2), if_pos ⟨⟨h1, h3⟩, h4⟩]
theorem jn_other (h1 : p.hasS = true) (h2 : p.sch ≠ fileB) (h3 : spF p.sch = false) : joinU b p = otherU p := by
 unfold joinU; rw [if_neg (jn_no1 h1 h2), if_neg (by simp [h3]), if_pos ⟨h1, by simp [h3]⟩]
theorem jn_one (h1 : p.hasS = true) (h2 : p.sch ≠ fileB) (h3 : spF p.sch = true) (h4 : p.sch = b.sch) (h5 : p.rest.take 2 ≠ [47, 47]) : joinU b p = if b.opq = true then flatU b p else relU b p := by
 unfold joinU
 rw [if_neg (jn_no1 h1 h2), if_neg (fun h => h.2.elim (fun h => h h4) h5), if_neg (fun h => h.2 h3)]
theorem jn_two (h1 : p.hasS = false) (h2 : ¬ (b.opq = false ∧ b.sch = fileB)) : joinU b p = if b.opq = true then flatU b p else relU b p := by
 unfold joinU
 rw [if_neg (fun h => h.elim (fun h => by rw [h1] at h; cases h.1) (fun h => h2 h.2)), if_neg (fun h => by rw [h1] at h; cases h.1.1), if_neg (fun h => by rw [h1] at h; cases h.1)]
theorem file_six (h8 : b.host.six.length = 8) (h : fileU b p = some u) : u.host.six.length = 8 := by
 rw [fileU_eq] at h
 have h2 : (fU2 b p).host.six.length = 8 := by
  unfold fU2
  split
  ·exact h8
  ·rfl
 split at h
 ·exact named_six (u := { startF fileB p with host := { H0 with kind := 1 } }) rfl h
 ·split at h
  ·injection h with h; rw [<- h]; exact h2
  ·split at h
   ·injection h with h; rw [<- h, takeP_host]; exact h2
   ·split at h
    iterate 2
     ·injection h with h; rw [<- h]; exact h2
theorem other_six (h : otherU p = some u) : u.host.six.length = 8 := by
 unfold otherU at h
 dsimp only at h
 split at h
 ·exact ask_six h
 ·injection h with h; rw [<- h]; rfl
 ·injection h with h; rw [<- h]; rfl
theorem flat_six (h8 : b.host.six.length = 8) (h : flatU b p = some u) : u.host.six.length = 8 := by
 unfold flatU at h
 split at h
 ·cases h
 ·injection h with h; rw [<- h]; exact h8
theorem rel_six (h8 : b.host.six.length = 8) (h : relU b p = some u) : u.host.six.length = 8 := by
 unfold relU at h
 dsimp only at h
 split at h
 ·exact ask_six h
 ·split at h
  ·exact ask_six h
  ·split at h
   ·injection h with h; rw [<- h]; exact h8
   ·split at h
    ·injection h with h; rw [<- h, takeP_host]; exact h8
    ·injection h with h; rw [<- h]; exact h8
theorem join_six (h8 : b.host.six.length = 8) (h : joinU b p = some u) : u.host.six.length = 8 := by
 unfold joinU at h
 split at h
 ·exact file_six h8 h
 ·split at h
  ·exact ask_six h
  ·split at h
   ·exact other_six h
   ·split at h
    ·exact flat_six h8 h
    ·exact rel_six h8 h
end
theorem hp_take (l : Bytes) : Lib.hasPrefix l [47, 47] = decide (l.take 2 = [47, 47]) := by
 rw [Bool.eq_iff_iff, hpSS, decide_eq_true_eq]
 constructor
 ·rintro ⟨r, rfl⟩; rfl
 ·intro h
  refine ⟨l.drop 2, ?_⟩
  have := List.take_append_drop 2 l
  rw [h] at this
  exact this.symm
theorem ujoin_any (bu : Url) (bv : Value) (p : Prt) (w : World) (h8 : bu.host.six.length = 8) (hbv : Sl w.heap.size w bv (bu.path.map S)) (hbs : Bs bu.path) (hr : Rs p.rest) (hq : p.q.length <= 307200000) (hf : p.f.length <= 307200000) (hE : Env w) : Calls Tryz.prog 89 #[.agg (uCells bv bu), .agg (pCells p)] w (JoinP w (joinU bu p)) := by
 have HFI := h_ (fun W (hb : Below w.heap.size w W) => file_any bu bv p W h8 ((hbv.below hb).more hb.size) hbs hr hq hf (hE.below hb))
 have HFL := h_ (fun W (hb : Below w.heap.size w W) => flat_any bu bv p W h8 ((hbv.below hb).more hb.size) hbs.le hf)
 have HRE := h_ (fun W (hb : Below w.heap.size w W) => relative_any bu bv p W h8 ((hbv.below hb).more hb.size) hbs hr hq hf (hE.below hb))
 have HOT := h_ (fun W (hb : Below w.heap.size w W) => pother_any p W hr hq hf (hE.below hb))
 obtain ⟨R, hR⟩ := ex_ (joinU bu p)
 rw [<- hR]
 have hse := sEq p.sch fileB
 have hbe := sEq bu.sch fileB
 have hpe := sEq p.sch bu.sch
 obtain ⟨psc, hpsc⟩ := ex_ (bs p.sch)
 obtain ⟨bsc, hbsc⟩ := ex_ (bs bu.sch)
 obtain ⟨t, ht⟩ := ex_ (bs p.rest)
 rw [<- hpsc, toList_bs fileB] at hse
 rw [<- hbsc, toList_bs fileB] at hbe
 rw [<- hpsc, <- hbsc] at hpe
 have hse2 : (psc.toList == [102, 105, 108, 101]) = decide (p.sch = fileB) := hse
 have hbe2 : (bsc.toList == [102, 105, 108, 101]) = decide (bu.sch = fileB) := hbe
 have HSP := h_ (show ∀ W, Calls Tryz.prog 22 #[.string psc] W fun e w' => e = .returned (.bool (spF p.sch)) ∧ w' = W from fun W => by rw [hpsc]; exact special_any p.sch W)
 have HPR := h_ (show ∀ W, Calls Tryz.prog 84 #[.string t, .string ⟨#[47, 47]⟩] W fun e w' => e = .returned (.bool (decide (p.rest.take 2 = [47, 47]))) ∧ w' = W from fun W => by rw [ht, <- hp_take]; exact hp_any p.rest [47, 47] W)
 have HST := h_ (show ∀ W, Calls Tryz.prog 120 #[.string psc, .agg (pCells p)] W fun e w' => e = .returned (.agg (uCells nilV (startF p.sch p))) ∧ Below W.heap.size W w' from fun W => by rw [hpsc]; exact start_any p.sch p W (by omega) (by omega))
 have HUN := h_ (show ∀ W, Calls Tryz.prog 122 #[.string psc, .string t] W fun e w' => e = .returned (S (p.rest.drop (slN (spF p.sch) p.rest))) ∧ w' = W from fun W => by rw [hpsc, ht]; exact unslashed_any p.sch p.rest W (by have := hr.l; omega))
 have HE := h_ hE
 have HRS := h_ hr
 have H8 := h_ h8
 have HBV := h_ hbv
 have HR := h_ hR
 have HPSC := h_ hpsc
 have HBSC := h_ hbsc
 have HT := h_ ht
 clear h8 hbv hbs hr hq hf hE hR hse hbe hpsc hbsc ht
 go_enter Tryz.func89, Tryz.ntmps89
 go_upto_region 1 with (first
  | (refine alloc_to rfl 30 rfl _ _ (allUrl _) ?_)
  | fail)
 obtain ⟨w3, hw3, hz3, hb, k1, k2, k3⟩ := three w bv bu p
 try rw [show ((w.alloc (.cells (uCells bv bu) 30)).alloc (.cells (pCells p) 35)).heap.size = w.heap.size + 2 by simp]
 rw [hw3]
 clear hw3
 obtain ⟨br, hbr⟩ := ex_ (w.heap.size + 2)
 obtain ⟨bx, hbx⟩ := ex_ (w.heap.size + 1)
 obtain ⟨bb, hbb⟩ := ex_ (w.heap.size)
 rw [<- hbr] at k3
 rw [<- hbx] at k2
 rw [<- hbb] at k1
 rw [<- hbr, <- hbx, <- hbb]
 have HLE := h_ (show w.heap.size <= br by omega)
 have HBB := h_ hbb
 have B3 := h_ hb
 have V3 := h_ k1
 have X3 := h_ k2
 have R3 := h_ k3
 have HD := h_ (show bb < bx ∧ bx < br by omega)
 have HZ3 := h_ (show br < w3.heap.size ∧ w.heap.size <= w3.heap.size by omega)
 clear hz3 hb k1 k2 k3 hbr hbx hbb
 have d0 := X3.out.cell_is (j := 0) (v := .bool p.hasS) rfl
 have d1 : w3.cell? ⟨bx, 1, none⟩ = some (.string psc) := by rw [HPSC.out]; exact X3.out.cell_is rfl
 have d2 : w3.cell? ⟨bx, 2, none⟩ = some (.string t) := by rw [HT.out]; exact X3.out.cell_is rfl
 have c0 : w3.cell? ⟨bb, 0, none⟩ = some (.string bsc) := by rw [HBSC.out]; exact V3.out.cell_is (uAt bv bu H8.out).sch
 have c16 := V3.out.cell_is (uAt bv bu H8.out).opq
 cases hS : p.hasS with
 | true =>
  rw [hS] at d0
  by_cases hF : p.sch = fileB
  ·rw [decide_eq_true hF] at hse2
   have HRX := h_ (HR.out.trans (jn_file1 hS hF))
   clear hS hF
   go_upto_region 4 with (first
    | (go_at_call 22; refine (HSP.out _).mono ?_; rintro e w6 ⟨rfl, hw⟩; subst hw)
    | (go_at_call 84; refine (HPR.out _).mono ?_; rintro e w6 ⟨rfl, hw⟩; subst hw)
    | fail)
   clear d0 d1 d2 c0 c16 hse2 hbe2 hpe
   cases hO : fileU bu p with
   | none =>
    have HRA := h_ (show R = none by rw [HRX.out, hO])
    have HC := h_ (fun W hb => (show Calls Tryz.prog 119 #[.agg (uCells bv bu), .agg (pCells p)] W fun e w' => e = NoN ∧ Below W.heap.size W w' from by have h := HFI.out W hb; rw [hO] at h; exact h))
    clear hO
    go_wp2_with (first
     | (refine getU rfl (.tmp 2) rfl w bb bv bu (OB.of V3.out (Nat.le_of_eq HBB.out.symm) B3.out) H8.out rfl ?_)
     | (refine getP rfl (.tmp 3) rfl bx p X3.out rfl ?_)
     | (go_at_call 119; refine (HC.out _ B3.out).mono ?_; rintro e w7 ⟨rfl, hb⟩; have B7 := h_ (stp B3.out hb); clear hb)
     | fail)
    rw [HRA.out]
    exact ⟨rfl, rfl, B7.out⟩
   | some u =>
    have HRA := h_ (show R = some u by rw [HRX.out, hO])
    have HC := h_ (fun W hb => (show Calls Tryz.prog 119 #[.agg (uCells bv bu), .agg (pCells p)] W fun e w' => ∃ pv, e = .returned (.agg (uCells pv u)) ∧ w'.ownsRow W.heap.size 9 1 pv u.path.length (Strs u.path) ∧ Below W.heap.size W w' from by have h := HFI.out W hb; rw [hO] at h; exact h))
    have U8 := h_ (file_six H8.out hO)
    clear hO
    go_wp2_with (first
     | (refine getU rfl (.tmp 2) rfl w bb bv bu (OB.of V3.out (Nat.le_of_eq HBB.out.symm) B3.out) H8.out rfl ?_)
     | (refine getP rfl (.tmp 3) rfl bx p X3.out rfl ?_)
     | (go_at_call 119; refine (HC.out _ B3.out).mono ?_; rintro e w7 ⟨pv, rfl, o7, hb⟩; have O7 := h_ o7; have B7 := h_ (stp B3.out hb); have R7 := h_ (R3.out.keep hb); clear o7 hb)
     | (refine putU rfl (.tmp 4) (.tmp 37) rfl w br (OB.of R7.out HLE.out B7.out) pv u U8.out (own_one O7.out) rfl rfl ?_; intro wZ iZ tZ; have IZ := h_ iZ; have OZ := h_ (own_base (tZ.row O7.out HZ3.out.1) HZ3.out.2); clear iZ tZ)
     | fail)
    rw [HRA.out]
    exact u_res (u := u) Tryz.results89 U8.out rfl IZ.out ⟨pv, rfl, OZ.out, IZ.out.bel⟩
  ·rw [decide_eq_false hF] at hse2
   cases hP : spF p.sch with
   | false =>
    rw [hP] at HSP
    have HRX := h_ (HR.out.trans (jn_other hS hF hP))
    clear hS hF hP
    go_upto_region 10 with (first
     | (go_at_call 22; refine (HSP.out _).mono ?_; rintro e w6 ⟨rfl, hw⟩; subst hw)
     | (go_at_call 84; refine (HPR.out _).mono ?_; rintro e w6 ⟨rfl, hw⟩; subst hw)
     | fail)
    clear d0 d1 d2 c0 c16 hse2 hbe2 hpe
    cases hO : otherU p with
    | none =>
     have HRA := h_ (show R = none by rw [HRX.out, hO])
     have HC := h_ (fun W hb => (show Calls Tryz.prog 123 #[.agg (pCells p)] W fun e w' => e = NoN ∧ Below W.heap.size W w' from by have h := HOT.out W hb; rw [hO] at h; exact h))
     clear hO
     go_wp2_with (first
      | (refine getP rfl (.tmp 3) rfl bx p X3.out rfl ?_)
      | (go_at_call 123; refine (HC.out _ B3.out).mono ?_; rintro e w7 ⟨rfl, hb⟩; have B7 := h_ (stp B3.out hb); clear hb)
      | fail)
     rw [HRA.out]
     exact ⟨rfl, rfl, B7.out⟩
    | some u =>
     have HRA := h_ (show R = some u by rw [HRX.out, hO])
     have HC := h_ (fun W hb => (show Calls Tryz.prog 123 #[.agg (pCells p)] W fun e w' => ∃ pv, e = .returned (.agg (uCells pv u)) ∧ w'.ownsRow W.heap.size 9 1 pv u.path.length (Strs u.path) ∧ Below W.heap.size W w' from by have h := HOT.out W hb; rw [hO] at h; exact h))
     have U8 := h_ (other_six hO)
     clear hO
     go_wp2_with (first
      | (refine getP rfl (.tmp 3) rfl bx p X3.out rfl ?_)
      | (go_at_call 123; refine (HC.out _ B3.out).mono ?_; rintro e w7 ⟨pv, rfl, o7, hb⟩; have O7 := h_ o7; have B7 := h_ (stp B3.out hb); have R7 := h_ (R3.out.keep hb); clear o7 hb)
      | (refine putU rfl (.tmp 4) (.tmp 71) rfl w br (OB.of R7.out HLE.out B7.out) pv u U8.out (own_one O7.out) rfl rfl ?_; intro wZ iZ tZ; have IZ := h_ iZ; have OZ := h_ (own_base (tZ.row O7.out HZ3.out.1) HZ3.out.2); clear iZ tZ)
      | fail)
     rw [HRA.out]
     exact u_res (u := u) Tryz.results89 U8.out rfl IZ.out ⟨pv, rfl, OZ.out, IZ.out.bel⟩
   | true =>
    by_cases hQ : p.sch = bu.sch
    ·rw [decide_eq_true hQ] at hpe
     by_cases hW : p.rest.take 2 = [47, 47]
     ·rw [decide_eq_true hW] at HPR
      rw [hP] at HSP
      have HRX := h_ (HR.out.trans (jn_ask hS hF hP (.inr hW)))
      clear hS hF hQ hW
      obtain ⟨us, hus⟩ := ex_ (startF p.sch p)
      have HS8 := h_ (show us.host.six.length = 8 by rw [hus]; rfl)
      have HUP := h_ (show us.path = [] by rw [hus]; rfl)
      have HUC := h_ (show us.sch = p.sch by rw [hus]; rfl)
      rw [<- hus] at HST HRX
      rw [hP] at HUN HRX
      clear hus hP
      generalize slN true p.rest = n at *
      have HRA0 := HRX
      go_upto_region 7 with (first
       | (go_at_call 22; refine (HSP.out _).mono ?_; rintro e w6 ⟨rfl, hw⟩; subst hw)
       | (go_at_call 84; refine (HPR.out _).mono ?_; rintro e w6 ⟨rfl, hw⟩; subst hw)
       | (refine getP rfl (.tmp 3) rfl bx p X3.out rfl ?_)
       | (go_at_call 120; refine (HST.out _).mono ?_; rintro e w4 ⟨rfl, hb⟩; have HB4 := h_ hb; clear hb)
       | (refine alloc_to rfl 30 rfl _ _ (allUrl _) ?_)
       | (refine storeUrl rfl (.tmp 6) (.tmp 55) rfl nilV us HS8.out rfl rfl rfl rfl ?_; intro w5 hh hb; have I5 := h_ (OB.of (w0 := w) hh (Nat.le_trans B3.out.size HB4.out.size) (stp (stp B3.out HB4.out) hb)); have K5 := h_ (show K3 bb bx br w4.heap.size bv bu p w5 from ⟨(V3.out.keep HB4.out).keep hb, (X3.out.keep HB4.out).keep hb, (R3.out.keep HB4.out).keep hb, Nat.ne_of_lt (Nat.lt_of_lt_of_le V3.out.lt HB4.out.size), Nat.ne_of_lt (Nat.lt_of_lt_of_le X3.out.lt HB4.out.size), Nat.ne_of_lt (Nat.lt_of_lt_of_le R3.out.lt HB4.out.size)⟩); have HBB3 := h_ (show br < w4.heap.size + 1 from Nat.lt_succ_of_lt (Nat.lt_of_lt_of_le R3.out.lt HB4.out.size)); have HLB := h_ (show w.heap.size <= w4.heap.size + 1 from Nat.le_succ_of_le (Nat.le_trans B3.out.size HB4.out.size)); clear hh hb)
       | fail)
      obtain ⟨b, hbb⟩ := ex_ (w4.heap.size)
      rw [<- hbb] at I5 K5 HBB3 HLB ⊢
      clear hbb d0 d1 d2 c0 c16 hse2 hbe2 hpe
      have d1 : w5.cell? ⟨bx, 1, none⟩ = some (.string psc) := by rw [HPSC.out]; exact K5.out.cx.cell_is rfl
      have d2 : w5.cell? ⟨bx, 2, none⟩ = some (.string t) := by rw [HT.out]; exact K5.out.cx.cell_is rfl
      have HAS := h_ (fun W (i : OB w b 30 (uCells nilV us) W) => ask_any w b us (p.rest.drop n) W i HS8.out HUP.out (by have := HRS.out.l; rw [List.length_drop]; omega) (HRS.out.a _ n) (HE.out.below i.bel))
      cases hO : askF us (p.rest.drop n) with
      | none =>
       have HRA := h_ (show R = none by rw [HRA0.out, hO])
       have HAN := h_ (fun W i => (show Calls Tryz.prog 121 #[.pointer (some ⟨b, 0, none⟩), S ((p.rest.drop n))] W fun e w' => e = NoN ∧ Below w.heap.size w w' ∧ Tn b W w' from by have h := HAS.out W i; rw [hO] at h; exact h))
       clear hO
       go_wp2_with (first
        | (go_at_call 122; refine (HUN.out _).mono ?_; rintro e w6 ⟨rfl, hw⟩; subst hw)
        | (go_at_call 121; refine (HAN.out _ I5.out).mono ?_; rintro e w7 ⟨rfl, hb, _⟩; have B7 := h_ hb; clear hb)
        | fail)
       rw [HRA.out]
       exact ⟨rfl, rfl, B7.out⟩
      | some u =>
       have HRA := h_ (show R = some u by rw [HRA0.out, hO])
       have HAN := h_ (fun W i => (show Calls Tryz.prog 121 #[.pointer (some ⟨b, 0, none⟩), S ((p.rest.drop n))] W fun e w' => e = .returned (.tuple #[]) ∧ (∃ pv, OB w b 30 (uCells pv u) w' ∧ w'.ownsRow W.heap.size 9 1 pv u.path.length (Strs u.path)) ∧ Tn b W w' from by have h := HAS.out W i; rw [hO] at h; exact h))
       have U8 := h_ (ask_six hO)
       clear hO
       go_upto_region 8 with (first
        | (go_at_call 122; refine (HUN.out _).mono ?_; rintro e w6 ⟨rfl, hw⟩; subst hw)
        | (go_at_call 121; refine (HAN.out _ I5.out).mono ?_; rintro e w7 ⟨rfl, ⟨pv, i7, o7⟩, t7⟩; have I7 := h_ i7; have O7 := h_ (own_base o7 (show b + 1 <= _ from I5.out.lt)); have K7 := h_ (K5.out.tn t7); clear i7 o7 t7)
        | fail)
       go_wp2_with (first
        | (refine getU rfl (.tmp 6) rfl w b pv u I7.out U8.out rfl ?_)
        | (refine putU rfl (.tmp 4) (.tmp 62) rfl w br (OB.of K7.out.cr HLE.out I7.out.bel) pv u U8.out (own_one O7.out) rfl rfl ?_; intro wZ iZ tZ; have IZ := h_ iZ; have OZ := h_ (own_base (tZ.row O7.out HBB3.out) HLB.out); clear iZ tZ)
        | fail)
       rw [HRA.out]
       exact u_res (u := u) Tryz.results89 U8.out rfl IZ.out ⟨pv, rfl, OZ.out, IZ.out.bel⟩
     ·rw [decide_eq_false hW] at HPR
      rw [hP] at HSP
      cases hO : bu.opq with
      | true =>
       rw [hO] at c16
       have HRX := h_ (HR.out.trans ((jn_one hS hF hP hQ hW).trans (if_pos hO)))
       clear hS hF hP hQ hW hO
       go_upto_region 12 with (first
        | (go_at_call 22; refine (HSP.out _).mono ?_; rintro e w6 ⟨rfl, hw⟩; subst hw)
        | (go_at_call 84; refine (HPR.out _).mono ?_; rintro e w6 ⟨rfl, hw⟩; subst hw)
        | fail)
       clear d0 d1 d2 c0 c16 hse2 hbe2 hpe
       cases hO : flatU bu p with
       | none =>
        have HRA := h_ (show R = none by rw [HRX.out, hO])
        have HC := h_ (fun W hb => (show Calls Tryz.prog 124 #[.agg (uCells bv bu), .agg (pCells p)] W fun e w' => e = NoN ∧ Below W.heap.size W w' from by have h := HFL.out W hb; rw [hO] at h; exact h))
        clear hO
        go_wp2_with (first
         | (refine getU rfl (.tmp 2) rfl w bb bv bu (OB.of V3.out (Nat.le_of_eq HBB.out.symm) B3.out) H8.out rfl ?_)
         | (refine getP rfl (.tmp 3) rfl bx p X3.out rfl ?_)
         | (go_at_call 124; refine (HC.out _ B3.out).mono ?_; rintro e w7 ⟨rfl, hb⟩; have B7 := h_ (stp B3.out hb); clear hb)
         | fail)
        rw [HRA.out]
        exact ⟨rfl, rfl, B7.out⟩
       | some u =>
        have HRA := h_ (show R = some u by rw [HRX.out, hO])
        have HC := h_ (fun W hb => (show Calls Tryz.prog 124 #[.agg (uCells bv bu), .agg (pCells p)] W fun e w' => ∃ pv, e = .returned (.agg (uCells pv u)) ∧ w'.ownsRow W.heap.size 9 1 pv u.path.length (Strs u.path) ∧ Below W.heap.size W w' from by have h := HFL.out W hb; rw [hO] at h; exact h))
        have U8 := h_ (flat_six H8.out hO)
        clear hO
        go_wp2_with (first
         | (refine getU rfl (.tmp 2) rfl w bb bv bu (OB.of V3.out (Nat.le_of_eq HBB.out.symm) B3.out) H8.out rfl ?_)
         | (refine getP rfl (.tmp 3) rfl bx p X3.out rfl ?_)
         | (go_at_call 124; refine (HC.out _ B3.out).mono ?_; rintro e w7 ⟨pv, rfl, o7, hb⟩; have O7 := h_ o7; have B7 := h_ (stp B3.out hb); have R7 := h_ (R3.out.keep hb); clear o7 hb)
         | (refine putU rfl (.tmp 4) (.tmp 77) rfl w br (OB.of R7.out HLE.out B7.out) pv u U8.out (own_one O7.out) rfl rfl ?_; intro wZ iZ tZ; have IZ := h_ iZ; have OZ := h_ (own_base (tZ.row O7.out HZ3.out.1) HZ3.out.2); clear iZ tZ)
         | fail)
        rw [HRA.out]
        exact u_res (u := u) Tryz.results89 U8.out rfl IZ.out ⟨pv, rfl, OZ.out, IZ.out.bel⟩
      | false =>
       rw [hO] at c16
       have HRX := h_ (HR.out.trans ((jn_one hS hF hP hQ hW).trans (if_neg (by simp [hO]))))
       clear hS hF hP hQ hW hO
       go_upto_region 13 with (first
        | (go_at_call 22; refine (HSP.out _).mono ?_; rintro e w6 ⟨rfl, hw⟩; subst hw)
        | (go_at_call 84; refine (HPR.out _).mono ?_; rintro e w6 ⟨rfl, hw⟩; subst hw)
        | fail)
       clear d0 d1 d2 c0 c16 hse2 hbe2 hpe
       cases hO : relU bu p with
       | none =>
        have HRA := h_ (show R = none by rw [HRX.out, hO])
        have HC := h_ (fun W hb => (show Calls Tryz.prog 125 #[.agg (uCells bv bu), .agg (pCells p)] W fun e w' => e = NoN ∧ Below W.heap.size W w' from by have h := HRE.out W hb; rw [hO] at h; exact h))
        clear hO
        go_wp2_with (first
         | (refine getU rfl (.tmp 2) rfl w bb bv bu (OB.of V3.out (Nat.le_of_eq HBB.out.symm) B3.out) H8.out rfl ?_)
         | (refine getP rfl (.tmp 3) rfl bx p X3.out rfl ?_)
         | (go_at_call 125; refine (HC.out _ B3.out).mono ?_; rintro e w7 ⟨rfl, hb⟩; have B7 := h_ (stp B3.out hb); clear hb)
         | fail)
        rw [HRA.out]
        exact ⟨rfl, rfl, B7.out⟩
       | some u =>
        have HRA := h_ (show R = some u by rw [HRX.out, hO])
        have HC := h_ (fun W hb => (show Calls Tryz.prog 125 #[.agg (uCells bv bu), .agg (pCells p)] W fun e w' => ∃ pv, e = .returned (.agg (uCells pv u)) ∧ w'.ownsRow W.heap.size 9 1 pv u.path.length (Strs u.path) ∧ Below W.heap.size W w' from by have h := HRE.out W hb; rw [hO] at h; exact h))
        have U8 := h_ (rel_six H8.out hO)
        clear hO
        go_wp2_with (first
         | (refine getU rfl (.tmp 2) rfl w bb bv bu (OB.of V3.out (Nat.le_of_eq HBB.out.symm) B3.out) H8.out rfl ?_)
         | (refine getP rfl (.tmp 3) rfl bx p X3.out rfl ?_)
         | (go_at_call 125; refine (HC.out _ B3.out).mono ?_; rintro e w7 ⟨pv, rfl, o7, hb⟩; have O7 := h_ o7; have B7 := h_ (stp B3.out hb); have R7 := h_ (R3.out.keep hb); clear o7 hb)
         | (refine putU rfl (.tmp 4) (.tmp 80) rfl w br (OB.of R7.out HLE.out B7.out) pv u U8.out (own_one O7.out) rfl rfl ?_; intro wZ iZ tZ; have IZ := h_ iZ; have OZ := h_ (own_base (tZ.row O7.out HZ3.out.1) HZ3.out.2); clear iZ tZ)
         | fail)
        rw [HRA.out]
        exact u_res (u := u) Tryz.results89 U8.out rfl IZ.out ⟨pv, rfl, OZ.out, IZ.out.bel⟩
    ·rw [decide_eq_false hQ] at hpe
     rw [hP] at HSP
     have HRX := h_ (HR.out.trans (jn_ask hS hF hP (.inl hQ)))
     clear hS hF hQ
     obtain ⟨us, hus⟩ := ex_ (startF p.sch p)
     have HS8 := h_ (show us.host.six.length = 8 by rw [hus]; rfl)
     have HUP := h_ (show us.path = [] by rw [hus]; rfl)
     have HUC := h_ (show us.sch = p.sch by rw [hus]; rfl)
     rw [<- hus] at HST HRX
     rw [hP] at HUN HRX
     clear hus hP
     generalize slN true p.rest = n at *
     have HRA0 := HRX
     go_upto_region 7 with (first
      | (go_at_call 22; refine (HSP.out _).mono ?_; rintro e w6 ⟨rfl, hw⟩; subst hw)
      | (go_at_call 84; refine (HPR.out _).mono ?_; rintro e w6 ⟨rfl, hw⟩; subst hw)
      | (refine getP rfl (.tmp 3) rfl bx p X3.out rfl ?_)
      | (go_at_call 120; refine (HST.out _).mono ?_; rintro e w4 ⟨rfl, hb⟩; have HB4 := h_ hb; clear hb)
      | (refine alloc_to rfl 30 rfl _ _ (allUrl _) ?_)
      | (refine storeUrl rfl (.tmp 6) (.tmp 55) rfl nilV us HS8.out rfl rfl rfl rfl ?_; intro w5 hh hb; have I5 := h_ (OB.of (w0 := w) hh (Nat.le_trans B3.out.size HB4.out.size) (stp (stp B3.out HB4.out) hb)); have K5 := h_ (show K3 bb bx br w4.heap.size bv bu p w5 from ⟨(V3.out.keep HB4.out).keep hb, (X3.out.keep HB4.out).keep hb, (R3.out.keep HB4.out).keep hb, Nat.ne_of_lt (Nat.lt_of_lt_of_le V3.out.lt HB4.out.size), Nat.ne_of_lt (Nat.lt_of_lt_of_le X3.out.lt HB4.out.size), Nat.ne_of_lt (Nat.lt_of_lt_of_le R3.out.lt HB4.out.size)⟩); have HBB3 := h_ (show br < w4.heap.size + 1 from Nat.lt_succ_of_lt (Nat.lt_of_lt_of_le R3.out.lt HB4.out.size)); have HLB := h_ (show w.heap.size <= w4.heap.size + 1 from Nat.le_succ_of_le (Nat.le_trans B3.out.size HB4.out.size)); clear hh hb)
      | fail)
     obtain ⟨b, hbb⟩ := ex_ (w4.heap.size)
     rw [<- hbb] at I5 K5 HBB3 HLB ⊢
     clear hbb d0 d1 d2 c0 c16 hse2 hbe2 hpe
     have d1 : w5.cell? ⟨bx, 1, none⟩ = some (.string psc) := by rw [HPSC.out]; exact K5.out.cx.cell_is rfl
     have d2 : w5.cell? ⟨bx, 2, none⟩ = some (.string t) := by rw [HT.out]; exact K5.out.cx.cell_is rfl
     have HAS := h_ (fun W (i : OB w b 30 (uCells nilV us) W) => ask_any w b us (p.rest.drop n) W i HS8.out HUP.out (by have := HRS.out.l; rw [List.length_drop]; omega) (HRS.out.a _ n) (HE.out.below i.bel))
     cases hO : askF us (p.rest.drop n) with
     | none =>
      have HRA := h_ (show R = none by rw [HRA0.out, hO])
      have HAN := h_ (fun W i => (show Calls Tryz.prog 121 #[.pointer (some ⟨b, 0, none⟩), S ((p.rest.drop n))] W fun e w' => e = NoN ∧ Below w.heap.size w w' ∧ Tn b W w' from by have h := HAS.out W i; rw [hO] at h; exact h))
      clear hO
      go_wp2_with (first
       | (go_at_call 122; refine (HUN.out _).mono ?_; rintro e w6 ⟨rfl, hw⟩; subst hw)
       | (go_at_call 121; refine (HAN.out _ I5.out).mono ?_; rintro e w7 ⟨rfl, hb, _⟩; have B7 := h_ hb; clear hb)
       | fail)
      rw [HRA.out]
      exact ⟨rfl, rfl, B7.out⟩
     | some u =>
      have HRA := h_ (show R = some u by rw [HRA0.out, hO])
      have HAN := h_ (fun W i => (show Calls Tryz.prog 121 #[.pointer (some ⟨b, 0, none⟩), S ((p.rest.drop n))] W fun e w' => e = .returned (.tuple #[]) ∧ (∃ pv, OB w b 30 (uCells pv u) w' ∧ w'.ownsRow W.heap.size 9 1 pv u.path.length (Strs u.path)) ∧ Tn b W w' from by have h := HAS.out W i; rw [hO] at h; exact h))
      have U8 := h_ (ask_six hO)
      clear hO
      go_upto_region 8 with (first
       | (go_at_call 122; refine (HUN.out _).mono ?_; rintro e w6 ⟨rfl, hw⟩; subst hw)
       | (go_at_call 121; refine (HAN.out _ I5.out).mono ?_; rintro e w7 ⟨rfl, ⟨pv, i7, o7⟩, t7⟩; have I7 := h_ i7; have O7 := h_ (own_base o7 (show b + 1 <= _ from I5.out.lt)); have K7 := h_ (K5.out.tn t7); clear i7 o7 t7)
       | fail)
      go_wp2_with (first
       | (refine getU rfl (.tmp 6) rfl w b pv u I7.out U8.out rfl ?_)
       | (refine putU rfl (.tmp 4) (.tmp 62) rfl w br (OB.of K7.out.cr HLE.out I7.out.bel) pv u U8.out (own_one O7.out) rfl rfl ?_; intro wZ iZ tZ; have IZ := h_ iZ; have OZ := h_ (own_base (tZ.row O7.out HBB3.out) HLB.out); clear iZ tZ)
       | fail)
      rw [HRA.out]
      exact u_res (u := u) Tryz.results89 U8.out rfl IZ.out ⟨pv, rfl, OZ.out, IZ.out.bel⟩
 | false =>
  rw [hS] at d0
  cases hO : bu.opq with
  | true =>
   rw [hO] at c16
   have HRX := h_ (HR.out.trans ((jn_two hS (fun h => by rw [hO] at h; cases h.1)).trans (if_pos hO)))
   clear hS hO
   go_upto_region 12 with (first
    | (go_at_call 22; refine (HSP.out _).mono ?_; rintro e w6 ⟨rfl, hw⟩; subst hw)
    | (go_at_call 84; refine (HPR.out _).mono ?_; rintro e w6 ⟨rfl, hw⟩; subst hw)
    | fail)
   clear d0 d1 d2 c0 c16 hse2 hbe2 hpe
   cases hO : flatU bu p with
   | none =>
    have HRA := h_ (show R = none by rw [HRX.out, hO])
    have HC := h_ (fun W hb => (show Calls Tryz.prog 124 #[.agg (uCells bv bu), .agg (pCells p)] W fun e w' => e = NoN ∧ Below W.heap.size W w' from by have h := HFL.out W hb; rw [hO] at h; exact h))
    clear hO
    go_wp2_with (first
     | (refine getU rfl (.tmp 2) rfl w bb bv bu (OB.of V3.out (Nat.le_of_eq HBB.out.symm) B3.out) H8.out rfl ?_)
     | (refine getP rfl (.tmp 3) rfl bx p X3.out rfl ?_)
     | (go_at_call 124; refine (HC.out _ B3.out).mono ?_; rintro e w7 ⟨rfl, hb⟩; have B7 := h_ (stp B3.out hb); clear hb)
     | fail)
    rw [HRA.out]
    exact ⟨rfl, rfl, B7.out⟩
   | some u =>
    have HRA := h_ (show R = some u by rw [HRX.out, hO])
    have HC := h_ (fun W hb => (show Calls Tryz.prog 124 #[.agg (uCells bv bu), .agg (pCells p)] W fun e w' => ∃ pv, e = .returned (.agg (uCells pv u)) ∧ w'.ownsRow W.heap.size 9 1 pv u.path.length (Strs u.path) ∧ Below W.heap.size W w' from by have h := HFL.out W hb; rw [hO] at h; exact h))
    have U8 := h_ (flat_six H8.out hO)
    clear hO
    go_wp2_with (first
     | (refine getU rfl (.tmp 2) rfl w bb bv bu (OB.of V3.out (Nat.le_of_eq HBB.out.symm) B3.out) H8.out rfl ?_)
     | (refine getP rfl (.tmp 3) rfl bx p X3.out rfl ?_)
     | (go_at_call 124; refine (HC.out _ B3.out).mono ?_; rintro e w7 ⟨pv, rfl, o7, hb⟩; have O7 := h_ o7; have B7 := h_ (stp B3.out hb); have R7 := h_ (R3.out.keep hb); clear o7 hb)
     | (refine putU rfl (.tmp 4) (.tmp 77) rfl w br (OB.of R7.out HLE.out B7.out) pv u U8.out (own_one O7.out) rfl rfl ?_; intro wZ iZ tZ; have IZ := h_ iZ; have OZ := h_ (own_base (tZ.row O7.out HZ3.out.1) HZ3.out.2); clear iZ tZ)
     | fail)
    rw [HRA.out]
    exact u_res (u := u) Tryz.results89 U8.out rfl IZ.out ⟨pv, rfl, OZ.out, IZ.out.bel⟩
  | false =>
   rw [hO] at c16
   by_cases hF : bu.sch = fileB
   ·rw [decide_eq_true hF] at hbe2
    have HRX := h_ (HR.out.trans (jn_file2 hS hO hF))
    clear hS hO hF
    go_upto_region 4 with (first
     | (go_at_call 22; refine (HSP.out _).mono ?_; rintro e w6 ⟨rfl, hw⟩; subst hw)
     | (go_at_call 84; refine (HPR.out _).mono ?_; rintro e w6 ⟨rfl, hw⟩; subst hw)
     | fail)
    clear d0 d1 d2 c0 c16 hse2 hbe2 hpe
    cases hO : fileU bu p with
    | none =>
     have HRA := h_ (show R = none by rw [HRX.out, hO])
     have HC := h_ (fun W hb => (show Calls Tryz.prog 119 #[.agg (uCells bv bu), .agg (pCells p)] W fun e w' => e = NoN ∧ Below W.heap.size W w' from by have h := HFI.out W hb; rw [hO] at h; exact h))
     clear hO
     go_wp2_with (first
      | (refine getU rfl (.tmp 2) rfl w bb bv bu (OB.of V3.out (Nat.le_of_eq HBB.out.symm) B3.out) H8.out rfl ?_)
      | (refine getP rfl (.tmp 3) rfl bx p X3.out rfl ?_)
      | (go_at_call 119; refine (HC.out _ B3.out).mono ?_; rintro e w7 ⟨rfl, hb⟩; have B7 := h_ (stp B3.out hb); clear hb)
      | fail)
     rw [HRA.out]
     exact ⟨rfl, rfl, B7.out⟩
    | some u =>
     have HRA := h_ (show R = some u by rw [HRX.out, hO])
     have HC := h_ (fun W hb => (show Calls Tryz.prog 119 #[.agg (uCells bv bu), .agg (pCells p)] W fun e w' => ∃ pv, e = .returned (.agg (uCells pv u)) ∧ w'.ownsRow W.heap.size 9 1 pv u.path.length (Strs u.path) ∧ Below W.heap.size W w' from by have h := HFI.out W hb; rw [hO] at h; exact h))
     have U8 := h_ (file_six H8.out hO)
     clear hO
     go_wp2_with (first
      | (refine getU rfl (.tmp 2) rfl w bb bv bu (OB.of V3.out (Nat.le_of_eq HBB.out.symm) B3.out) H8.out rfl ?_)
      | (refine getP rfl (.tmp 3) rfl bx p X3.out rfl ?_)
      | (go_at_call 119; refine (HC.out _ B3.out).mono ?_; rintro e w7 ⟨pv, rfl, o7, hb⟩; have O7 := h_ o7; have B7 := h_ (stp B3.out hb); have R7 := h_ (R3.out.keep hb); clear o7 hb)
      | (refine putU rfl (.tmp 4) (.tmp 37) rfl w br (OB.of R7.out HLE.out B7.out) pv u U8.out (own_one O7.out) rfl rfl ?_; intro wZ iZ tZ; have IZ := h_ iZ; have OZ := h_ (own_base (tZ.row O7.out HZ3.out.1) HZ3.out.2); clear iZ tZ)
      | fail)
     rw [HRA.out]
     exact u_res (u := u) Tryz.results89 U8.out rfl IZ.out ⟨pv, rfl, OZ.out, IZ.out.bel⟩
   ·rw [decide_eq_false hF] at hbe2
    have HRX := h_ (HR.out.trans ((jn_two hS (fun h => hF h.2)).trans (if_neg (by simp [hO]))))
    clear hS hO hF
    go_upto_region 13 with (first
     | (go_at_call 22; refine (HSP.out _).mono ?_; rintro e w6 ⟨rfl, hw⟩; subst hw)
     | (go_at_call 84; refine (HPR.out _).mono ?_; rintro e w6 ⟨rfl, hw⟩; subst hw)
     | fail)
    clear d0 d1 d2 c0 c16 hse2 hbe2 hpe
    cases hO : relU bu p with
    | none =>
     have HRA := h_ (show R = none by rw [HRX.out, hO])
     have HC := h_ (fun W hb => (show Calls Tryz.prog 125 #[.agg (uCells bv bu), .agg (pCells p)] W fun e w' => e = NoN ∧ Below W.heap.size W w' from by have h := HRE.out W hb; rw [hO] at h; exact h))
     clear hO
     go_wp2_with (first
      | (refine getU rfl (.tmp 2) rfl w bb bv bu (OB.of V3.out (Nat.le_of_eq HBB.out.symm) B3.out) H8.out rfl ?_)
      | (refine getP rfl (.tmp 3) rfl bx p X3.out rfl ?_)
      | (go_at_call 125; refine (HC.out _ B3.out).mono ?_; rintro e w7 ⟨rfl, hb⟩; have B7 := h_ (stp B3.out hb); clear hb)
      | fail)
     rw [HRA.out]
     exact ⟨rfl, rfl, B7.out⟩
    | some u =>
     have HRA := h_ (show R = some u by rw [HRX.out, hO])
     have HC := h_ (fun W hb => (show Calls Tryz.prog 125 #[.agg (uCells bv bu), .agg (pCells p)] W fun e w' => ∃ pv, e = .returned (.agg (uCells pv u)) ∧ w'.ownsRow W.heap.size 9 1 pv u.path.length (Strs u.path) ∧ Below W.heap.size W w' from by have h := HRE.out W hb; rw [hO] at h; exact h))
     have U8 := h_ (rel_six H8.out hO)
     clear hO
     go_wp2_with (first
      | (refine getU rfl (.tmp 2) rfl w bb bv bu (OB.of V3.out (Nat.le_of_eq HBB.out.symm) B3.out) H8.out rfl ?_)
      | (refine getP rfl (.tmp 3) rfl bx p X3.out rfl ?_)
      | (go_at_call 125; refine (HC.out _ B3.out).mono ?_; rintro e w7 ⟨pv, rfl, o7, hb⟩; have O7 := h_ o7; have B7 := h_ (stp B3.out hb); have R7 := h_ (R3.out.keep hb); clear o7 hb)
      | (refine putU rfl (.tmp 4) (.tmp 80) rfl w br (OB.of R7.out HLE.out B7.out) pv u U8.out (own_one O7.out) rfl rfl ?_; intro wZ iZ tZ; have IZ := h_ iZ; have OZ := h_ (own_base (tZ.row O7.out HZ3.out.1) HZ3.out.2); clear iZ tZ)
      | fail)
     rw [HRA.out]
     exact u_res (u := u) Tryz.results89 U8.out rfl IZ.out ⟨pv, rfl, OZ.out, IZ.out.bel⟩

theorem joinP_ge : ∀ l : List Bytes, l.length <= (joinP l).length
 | [] => by simp [joinP]
 | p :: r => by
  have := joinP_ge r
  unfold joinP
  simp only [List.length_append, List.length_cons, List.length_nil]
  omega
theorem joinP_short {sch : Bytes} {l : List Bytes} : (joinP (shortF sch l)).length <= (joinP l).length := by
 match l with
 | [] => simp [shortF, joinP]
 | [x] =>
  show (joinP (if sch = [102, 105, 108, 101] ∧ normF x = true then [x] else [])).length <= _
  split
  ·exact Nat.le_refl _
  ·simp [joinP]
 | x :: y :: r =>
  show (joinP ((x :: y :: r).dropLast)).length <= _
  have e := List.dropLast_concat_getLast (l := x :: y :: r) (by simp)
  have h := congrArg (fun l => (joinP l).length) e
  try dsimp only at h
  rw [joinP_snoc] at h
  simp only [List.length_append] at h
  omega
theorem segS_len {sch : Bytes} {out : List Bytes} {p : Bytes} {last : Bool} : (joinP (segS sch out p last)).length <= (joinP out).length + (3 * p.length + 1) := by
 have hs := joinP_short (sch := sch) (l := out)
 have hp := pcB_len 4 p
 unfold segS
 split
 ·split
  ·rw [joinP_snoc]; simp only [List.length_append, List.length_cons, List.length_nil]; omega
  ·omega
 ·split
  ·split
   ·rw [joinP_snoc]; simp only [List.length_append, List.length_cons, List.length_nil]; omega
   ·omega
  ·split
   ·next h =>
    have h2 : p.length = 2 := by
     have h3 := h.2.2
     match p with
     | [] => cases h3
     | [a] => cases h3
     | [a, b] => rfl
     | a :: b :: c :: r => cases h3
    rw [joinP_snoc]
    simp only [List.length_append, List.length_cons, List.length_nil, List.length_take]
    omega
   ·rw [joinP_snoc]; simp only [List.length_append, List.length_cons, List.length_nil]; omega
def sumP : List Bytes -> Nat
 | [] => 0
 | p :: r => (p.length + 1) + sumP r
theorem segGo_len {sch : Bytes} : ∀ (ps out : List Bytes), (joinP (segGo sch out ps)).length <= (joinP out).length + 3 * sumP ps
 | [], out => by simp [segGo]
 | [p], out => by
  have := segS_len (sch := sch) (out := out) (p := p) (last := true)
  show (joinP (segS sch out p true)).length <= _
  unfold sumP sumP
  omega
 | p :: q :: r, out => by
  have h1 := segS_len (sch := sch) (out := out) (p := p) (last := false)
  have h2 := segGo_len (sch := sch) (q :: r) (segS sch out p false)
  show (joinP (segGo sch (segS sch out p false) (q :: r))).length <= _
  have e : sumP (p :: q :: r) = (p.length + 1) + sumP (q :: r) := rfl
  omega
theorem segs_sum (sp : Bool) : ∀ s : Bytes, sumP (segs sp s) = s.length + 1
 | [] => rfl
 | c :: t => by
  have ih := segs_sum sp t
  unfold segs
  split
  ·show (0 + 1) + sumP (segs sp t) = _
   rw [ih, List.length_cons]; omega
  ·obtain ⟨p, ps, e⟩ := segs_ne sp t
   rw [e] at ih ⊢
   have e1 : sumP (p :: ps) = (p.length + 1) + sumP ps := rfl
   have e2 : sumP ((c :: p) :: ps) = ((c :: p).length + 1) + sumP ps := rfl
   rw [e2, List.length_cons, List.length_cons]
   omega
theorem segP_len (sch : Bytes) (path : List Bytes) (s : Bytes) : (joinP (segP sch path s)).length <= (joinP path).length + 3 * s.length + 3 := by
 have h := segGo_len (sch := sch) (segs (spF sch) s) path
 rw [segs_sum] at h
 unfold segP
 omega
theorem pathF_len2 (sch s : Bytes) : (joinP (pathF' sch s)).length <= 3 * s.length + 3 := by
 unfold pathF'
 have h1 := segP_len sch [] s
 have h2 := segP_len sch [] (s.drop 1)
 have e : (joinP ([] : List Bytes)).length = 0 := rfl
 rw [e] at h1 h2
 split
 ·rw [List.length_drop] at h2; omega
 ·omega
theorem joinP_if (c : Prop) [Decidable c] (l : List Bytes) : (joinP (if c then l.take 1 else [])).length <= (joinP l).length := by
 split
 ·cases l with
  | nil => simp [joinP]
  | cons x r =>
   show (joinP [x]).length <= _
   simp [joinP]
 ·simp [joinP]
structure Ul (L M : Nat) (u : Url) : Prop where
 sch : u.sch.length <= L
 usr : u.usr.length <= 3 * L
 pas : u.pas.length <= 3 * L
 host : (∃ n sp, n.length <= L ∧ hostP n sp = some u.host) ∨ u.host.name = []
 flat : u.flat.length <= 3 * L + 3
 path : (joinP u.path).length <= M
 q : u.q.length <= 3 * L
 f : u.f.length <= 3 * L
structure Pl (L : Nat) (p : Prt) : Prop where
 sch : p.sch.length <= L
 rest : p.rest.length <= L
 q : p.q.length <= L
 f : p.f.length <= L
theorem pl_split (s : Bytes) : Pl s.length (splitF s) := by
 have a := cut1_len 35 s
 have b := cut1_len 63 (cut1 35 s).1
 have c := cut1_len 58 (cut1 63 (cut1 35 s).1).1
 unfold splitF
 dsimp only
 split
 ·exact ⟨by rw [List.length_map]; omega, by dsimp only; omega, by dsimp only; omega, by dsimp only; omega⟩
 ·exact ⟨Nat.zero_le _, by dsimp only; omega, by dsimp only; omega, by dsimp only; omega⟩
theorem clean_len2 (s : Bytes) : (cleanF s).length <= s.length := by
 have h1 : (cleanF s).length <= (trimF s).length := List.length_filter_le _ _
 have h2 : (trimF s).length <= s.length := trimF_len s
 omega
theorem pl_read {s : Bytes} {L : Nat} (h : s.length <= L) : Pl L (splitF (cleanF s)) := by
 have h1 := pl_split (cleanF s)
 have h2 := clean_len2 s
 exact ⟨by have := h1.sch; omega, by have := h1.rest; omega, by have := h1.q; omega, by have := h1.f; omega⟩
section
variable {L M : Nat} {b u : Url} {p : Prt}
theorem ul_start (hp : Pl L p) {sch : Bytes} (hs : sch.length <= L) : Ul L M (startF sch p) := by
 refine ⟨hs, Nat.zero_le _, Nat.zero_le _, .inr rfl, Nat.zero_le _, Nat.zero_le _, ?_, ?_⟩
 ·have h1 := pcB_len (if spF sch = true then 3 else 2) p.q
  have h2 := hp.q
  show (pcB (if spF sch = true then 3 else 2) p.q).length <= _
  omega
 ·have h1 := pcB_len 1 p.f
  have h2 := hp.f
  show (pcB 1 p.f).length <= _
  omega
theorem ul_ask {u0 : Url} {s : Bytes} (h0 : Ul L M u0) (hs : s.length <= L) (hM : 3 * L + 3 <= M) (h : askF u0 s = some u) : Ul L M u := by
 unfold askF at h
 dsimp only at h
 have hc := acut_len (spF u0.sch) s
 cases ha : authF u0.sch (acutF (spF u0.sch) s).1 with
 | none => rw [ha] at h; cases h
 | some a =>
  rw [ha] at h
  injection h with h
  obtain ⟨h1, h2, n, hn, hh⟩ := auth_len ha
  rw [<- h]
  refine ⟨h0.sch, by dsimp only; omega, by dsimp only; omega, .inl ⟨n, _, by omega, hh⟩, h0.flat, ?_, h0.q, h0.f⟩
  dsimp only
  split
  ·have := pathF_len2 u0.sch (acutF (spF u0.sch) s).2
   omega
  ·exact h0.path
theorem ul_named {u0 : Url} {s : Bytes} (h0 : Ul L M u0) (hs : s.length <= L) (hM : 3 * L + 3 <= M) (h : namedU u0 s = some u) : Ul L M u := by
 unfold namedU at h
 dsimp only at h
 have hc := acut_len true s
 have hp2 := pathF_len2 u0.sch (acutF true s).2
 have hs2 := segP_len u0.sch [] s
 have e : (joinP ([] : List Bytes)).length = 0 := rfl
 rw [e] at hs2
 split at h
 ·injection h with h
  rw [<- h]
  exact ⟨h0.sch, h0.usr, h0.pas, h0.host, h0.flat, by dsimp only; omega, h0.q, h0.f⟩
 ·split at h
  ·injection h with h
   rw [<- h]
   exact ⟨h0.sch, h0.usr, h0.pas, h0.host, h0.flat, by dsimp only; omega, h0.q, h0.f⟩
  ·cases hO : hostP (acutF true s).1 true with
   | none => rw [hO] at h; cases h
   | some g =>
    rw [hO] at h
    injection h with h
    rw [<- h]
    refine ⟨h0.sch, h0.usr, h0.pas, ?_, h0.flat, by dsimp only; omega, h0.q, h0.f⟩
    dsimp only
    split
    ·exact h0.host
    ·exact .inl ⟨_, _, by omega, hO⟩
theorem ul_takeP (h0 : Ul L M u) (hb : Ul L M b) : Ul L M (takeP u b) := by
 unfold takeP
 split
 ·exact ⟨h0.sch, h0.usr, h0.pas, h0.host, h0.flat, hb.path, h0.q, h0.f⟩
 ·exact ⟨h0.sch, h0.usr, h0.pas, h0.host, h0.flat, hb.path, hb.q, h0.f⟩
theorem Ul.more {M' : Nat} (h : Ul L M u) (hM : M <= M') : Ul L M' u := ⟨h.sch, h.usr, h.pas, h.host, h.flat, Nat.le_trans h.path hM, h.q, h.f⟩
theorem ul_path (h0 : Ul L M u) (l : List Bytes) {M' : Nat} (hl : (joinP l).length <= M') : Ul L M' { u with path := l } := ⟨h0.sch, h0.usr, h0.pas, h0.host, h0.flat, hl, h0.q, h0.f⟩
theorem ul_file (hp : Pl L p) (hL : 4 <= L) (hb : Ul L M b) (h : fileU b p = some u) : Ul L (M + 3 * L + 3) u := by
 have h0 : Ul L (M + 3 * L + 3) (startF fileB p) := ul_start hp hL
 have hr := hp.rest
 have hbp := hb.path
 rw [fileU_eq] at h
 have h2 : Ul L (M + 3 * L + 3) (fU2 b p) := by
  unfold fU2
  split
  ·exact ⟨h0.sch, h0.usr, h0.pas, hb.host, h0.flat, h0.path, h0.q, h0.f⟩
  ·exact ⟨h0.sch, h0.usr, h0.pas, .inr rfl, h0.flat, h0.path, h0.q, h0.f⟩
 split at h
 ·exact ul_named (u0 := { startF fileB p with host := { H0 with kind := 1 } }) ⟨h0.sch, h0.usr, h0.pas, .inr rfl, h0.flat, h0.path, h0.q, h0.f⟩ (by rw [List.length_drop]; omega) (by omega) h
 ·split at h
  ·injection h with h
   rw [<- h]
   refine ul_path h2 _ ?_
   have h3 := segP_len fileB (if b.sch = fileB then fPath b (p.rest.drop 1) else []) (p.rest.drop 1)
   have h4 : (joinP (if b.sch = fileB then fPath b (p.rest.drop 1) else [])).length <= M := by
    split
    ·exact Nat.le_trans (joinP_if _ _) hbp
    ·simp [joinP]
   rw [List.length_drop] at h3
   omega
  ·split at h
   ·injection h with h
    rw [<- h]
    exact ul_takeP h2 (hb.more (by omega))
   ·split at h
    ·injection h with h
     rw [<- h]
     refine ul_path h2 _ ?_
     have h3 := segP_len fileB (shortF fileB b.path) p.rest
     have h4 := joinP_short (sch := fileB) (l := b.path)
     omega
    ·injection h with h
     rw [<- h]
     refine ul_path h2 _ ?_
     have h3 := segP_len fileB [] p.rest
     have e : (joinP ([] : List Bytes)).length = 0 := rfl
     omega
theorem ul_other (hp : Pl L p) (h : otherU p = some u) : Ul L (3 * L + 3) u := by
 have h0 : Ul L (3 * L + 3) (startF p.sch p) := ul_start hp hp.sch
 have hr := hp.rest
 unfold otherU at h
 dsimp only at h
 split at h
 ·next r he =>
  rw [he] at hr
  simp only [List.length_cons] at hr
  exact ul_ask h0 (by omega) (Nat.le_refl _) h
 ·next r _ he =>
  rw [he] at hr
  simp only [List.length_cons] at hr
  injection h with h
  rw [<- h]
  refine ul_path h0 _ ?_
  have h3 := segP_len p.sch [] r
  have e : (joinP ([] : List Bytes)).length = 0 := rfl
  show (joinP (segP p.sch [] r)).length <= _
  omega
 ·injection h with h
  rw [<- h]
  refine ⟨h0.sch, h0.usr, h0.pas, h0.host, ?_, h0.path, h0.q, h0.f⟩
  have h3 := pcB_len 0 p.rest
  dsimp only
  split
  ·simp only [List.length_append, List.length_dropLast, List.length_cons, List.length_nil]; omega
  ·omega
theorem ul_flat (hp : Pl L p) (hb : Ul L M b) (h : flatU b p = some u) : Ul L M u := by
 unfold flatU at h
 split at h
 ·cases h
 ·injection h with h
  rw [<- h]
  refine ⟨hb.sch, hb.usr, hb.pas, hb.host, hb.flat, hb.path, hb.q, ?_⟩
  have h1 := pcB_len 1 p.f
  have h2 := hp.f
  show (pcB 1 p.f).length <= _
  omega
theorem ul_rel (hp : Pl L p) (hb : Ul L M b) (h : relU b p = some u) : Ul L (M + 3 * L + 3) u := by
 have h0 : Ul L (M + 3 * L + 3) (startF b.sch p) := ul_start hp hb.sch
 have hr := hp.rest
 have hbp := hb.path
 have hA : Ul L (M + 3 * L + 3) (takeA (startF b.sch p) b) := ⟨h0.sch, hb.usr, hb.pas, hb.host, h0.flat, h0.path, h0.q, h0.f⟩
 unfold relU at h
 dsimp only at h
 split at h
 ·exact ul_ask h0 (by rw [List.length_drop]; omega) (by omega) h
 ·split at h
  ·exact ul_ask h0 (by rw [List.length_drop]; omega) (by omega) h
  ·split at h
   ·injection h with h
    rw [<- h]
    refine ul_path hA _ ?_
    have h3 := segP_len b.sch [] (p.rest.drop 1)
    have e : (joinP ([] : List Bytes)).length = 0 := rfl
    rw [List.length_drop] at h3
    omega
   ·split at h
    ·injection h with h
     rw [<- h]
     exact ul_takeP hA (hb.more (by omega))
    ·injection h with h
     rw [<- h]
     refine ul_path hA _ ?_
     have h3 := segP_len b.sch (shortF b.sch b.path) p.rest
     have h4 := joinP_short (sch := b.sch) (l := b.path)
     omega
theorem ul_join (hp : Pl L p) (hL : 4 <= L) (hb : Ul L M b) (h : joinU b p = some u) : Ul L (M + 3 * L + 3) u := by
 unfold joinU at h
 split at h
 ·exact ul_file hp hL hb h
 ·split at h
  ·have := hp.rest
   exact ul_ask (ul_start hp hp.sch) (by rw [List.length_drop]; omega) (by omega) h
  ·split at h
   ·exact (ul_other hp h).more (by omega)
   ·split at h
    ·exact (ul_flat hp hb h).more (by omega)
    ·exact ul_rel hp hb h
end
theorem ul_U0 (L : Nat) : Ul L 0 U0 := ⟨Nat.zero_le _, Nat.zero_le _, Nat.zero_le _, .inr rfl, Nat.zero_le _, Nat.zero_le _, Nat.zero_le _, Nat.zero_le _⟩
theorem ul_readU {s : Bytes} {u : Url} {L : Nat} (hs : s.length <= L) (hL : 4 <= L) (h : readU s = some u) : Ul L (3 * L + 3) u := by
 unfold readU at h
 split at h
 ·have := ul_join (M := 0) (pl_read hs) hL (ul_U0 L) h
  rw [Nat.zero_add] at this
  exact this
 ·cases h
theorem ul_readJ {b u : Url} {s : Bytes} {L M : Nat} (hs : s.length <= L) (hL : 4 <= L) (hb : Ul L M b) (h : readJ b s = some u) : Ul L (M + 3 * L + 3) u := ul_join (pl_read hs) hL hb h
theorem dom_short5 {l n : Bytes} (hl : l.length <= 1000) (hd : domF (pdF l) = some n) : n.length <= 102400000 := by
 have h1 := pdF_len _ l (Nat.le_refl _)
 have h2 := told_len (signs (pdF l))
 have h3 := signs_len _ (pdF l) (Nat.le_refl _)
 have h4 := dom_len2 hd
 omega
theorem name_short {s : Bytes} {sp : Bool} {h : Hst} (hh : hostP s sp = some h) (hs : s.length <= 1000) : h.name.length <= 102400000 := by
 have key : HKind s sp h -> h.name.length <= 102400000 := by
  intro e
  cases e with
  | six a h8 ha _ => exact Nat.zero_le _
  | name n e _ hd hn hb he => exact dom_short5 hs hd
  | four n e _ h => exact Nat.zero_le _
  | empty e h => exact Nat.zero_le _
  | opaq e _ h hb =>
   have := pc_len0 s
   show (pcB 0 s).length <= _
   omega
 exact key (hkind hh)
theorem ul_sm {L M : Nat} {u : Url} (h : Ul L M u) (hL : L <= 1000) (hM : M <= 1024000000) : UrlSm u := by
 refine ⟨by have := h.sch; omega, by have := h.usr; omega, by have := h.pas; omega, ?_, by have := h.flat; omega, by have := h.path; omega, by have := h.q; omega, by have := h.f; omega⟩
 rcases h.host with ⟨n, sp, hn, hh⟩ | h
 ·exact name_short hh (by omega)
 ·rw [h]; exact Nat.zero_le _
theorem good_ok {u : Url} (g : Good u) : UrlOk u := by
 cases g.body with
 | opq h1 h2 h3 h4 h5 => exact ⟨by rw [h3]; exact H0_ok, by rw [h5.n]; omega⟩
 | none h1 h2 h3 h5 => exact ⟨by rw [h3]; exact H0_ok, by rw [h5.n]; omega⟩
 | file h1 hs h3 h5 hp =>
  refine ⟨?_, by rw [h5.n]; omega⟩
  rcases h3 with h3 | ⟨n, _, h3, _⟩
  ·rw [h3]; exact ⟨by simp, by simp [H0], rfl, Z8_ok⟩
  ·exact hkind_ok (hkind h3)
 | asked h1 hs ha hp =>
  obtain ⟨n, hh, _⟩ := ha.h
  refine ⟨hkind_ok (hkind hh), ?_⟩
  rcases ha.q with ⟨_, h⟩ | ⟨_, h2, h3, _⟩
  ·have h : u.port = 0 := h
   rw [h]; omega
  ·have h2 : 0 <= u.port := h2
   have h3 : u.port <= 65535 := h3
   omega
theorem ul_bs {L M : Nat} {u : Url} (h : Ul L M u) (hM : M <= 307200000) : u.path.length <= 307200000 ∧ ∀ x ∈ u.path, List.length x <= 1024000000 := by
 have h1 := h.path
 have h2 := joinP_ge u.path
 refine ⟨by omega, fun x hx => ?_⟩
 have key : ∀ l : List Bytes, x ∈ l -> x.length <= (joinP l).length := by
  intro l
  induction l with
  | nil => intro h; cases h
  | cons p r ih =>
   intro h
   unfold joinP
   simp only [List.length_append]
   rcases List.mem_cons.mp h with rfl | h
   ·omega
   ·have := ih h; omega
 have := key _ hx
 omega
end Go.Proofs.YtpckaimpjccjhaaGreatDoor
