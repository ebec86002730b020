/- WlkN WlkO WlkP WlkQ WlkR WlkS: joined. -/
import Derived.Test.YtpckaimpjccjhaaGreatDoorGWlkH
import Derived.Test.YtpckaimpjccjhaaGreatDoorGAthW
set_option maxHeartbeats 40000000
namespace Go.Proofs.YtpckaimpjccjhaaGreatDoor
open Go.RowKit
set_option maxRecDepth 10000
abbrev NoN : Ending := .panicked [{ v := .iface 164 (.agg #[]), recovered := false }]
def AShort (l : Bytes) : Prop := ∀ s u p n q, stF l = some (s, u, p) -> nqF s = some (n, q) -> Short n
theorem ashort_of {l : Bytes} (h : l.length <= 1048576) : AShort l := fun s u p n q h1 h2 => short_of (by have := st_len h1; have := (nq_len h2).1; omega)
def askA (u : Url) (a : Ath) : Url := { u with usr := a.user, pas := a.pass, host := a.host, hasPort := a.hasPort, port := a.port }
theorem acut_len (sp : Bool) (s : Bytes) : (acutF sp s).1.length <= s.length ∧ (acutF sp s).2.length <= s.length := by
 unfold acutF
 have h := congrArg List.length (List.takeWhile_append_dropWhile (p := fun c => !slP sp c) (l := s))
 rw [List.length_append] at h
 dsimp only
 omega
theorem askF_eq (u : Url) (s : Bytes) (hp : u.path = []) : askF u s = match authF u.sch (acutF (spF u.sch) s).1 with
  | none => none
  | some a => some { askA u a with path := if spF u.sch = true ∨ (acutF (spF u.sch) s).2 ≠ [] then pathF' u.sch (acutF (spF u.sch) s).2 else [] } := by
 unfold askF
 rw [hp]
 rfl
def AskP (w0 : World) (b : Nat) (w : World) : Option Url -> Ending -> World -> Prop
 | none, e, w' => e = NoN ∧ Below w0.heap.size w0 w' ∧ Tn b w w'
 | some u, e, w' => e = .returned (.tuple #[]) ∧ (∃ pv, OB w0 b 30 (uCells pv u) w' ∧ w'.ownsRow w.heap.size 9 1 pv u.path.length (Strs u.path)) ∧ Tn b w w'
theorem own_base {w : World} {base base' e n : Nat} {v : Value} {xs : List Value} (h : w.ownsRow base e 1 v n xs) (hb : base' <= base) : w.ownsRow base' e 1 v n xs := by
 refine ⟨h.1, ?_⟩
 rcases h.2 with h0 | ⟨g, cap, cur, e1, hg, hh, hr⟩
 ·exact .inl h0
 ·exact .inr ⟨g, cap, cur, e1, Nat.le_trans hb hg, hh, hr⟩
theorem own_st {w : World} {base e : Nat} {v : Value} {l : List Bytes} (h : w.ownsRow base e 1 v (Strs l).length (Strs l)) : w.ownsRow base e 1 v l.length (Strs l) := by
 rw [List.length_map] at h
 exact h
theorem own_nil {w : World} {base e : Nat} : w.ownsRow base e 1 nilV 0 [] := ⟨rfl, .inl ⟨rfl, rfl⟩⟩
theorem ask_any (w0 : World) (b : Nat) (u : Url) (s : Bytes) (w : World) (i : OB w0 b 30 (uCells nilV u) w) (h8 : u.host.six.length = 8) (hp : u.path = []) (hs : s.length <= 307200000) (hA : AShort (acutF (spF u.sch) s).1) (hE : Env w) :
  Calls Tryz.prog 121 #[.pointer (some ⟨b, 0, none⟩), .string (bs s)] w (AskP w0 b w (askF u s)) := by
 obtain ⟨R, hR⟩ := ex_ (askF u s)
 rw [<- hR]
 rw [askF_eq u s hp] at hR
 have hsp := fun W => special_any u.sch W
 have hcu := fun W => acut_any s (spF u.sch) W (by omega)
 have hcl := acut_len (spF u.sch) s
 have hap := fun (W : World) (hW : Below w.heap.size w W) => aparse_gen u.sch (acutF (spF u.sch) s).1 W (by omega) hA (hE.below hW)
 have hpo := fun W => pathOf_any u.sch (acutF (spF u.sch) s).2 W (by omega)
 have ha8 := @ath_six u.sch (acutF (spF u.sch) s).1
 generalize spF u.sch = sp at *
 generalize acutF sp s = C at *
 obtain ⟨c1, c2⟩ := C
 simp only at hR hcu hcl hap hpo ha8
 have UU := h_ (uAt nilV u h8)
 have H8 := h_ h8
 have II := h_ i
 obtain ⟨sc, hsc⟩ := ex_ (bs u.sch)
 obtain ⟨t, ht⟩ := ex_ (bs s)
 obtain ⟨k1, hk1⟩ := ex_ (bs c1)
 obtain ⟨k2, hk2⟩ := ex_ (bs c2)
 rw [<- hsc] at hsp hap hpo
 rw [<- ht] at hcu ⊢
 rw [<- hk1] at hap
 rw [<- hk2] at hpo
 have HCU := h_ (show ∀ W, Calls Tryz.prog 151 #[.string t, .bool sp] W fun e w' => e = .returned (.tuple #[.string k1, .string k2]) ∧ Below W.heap.size W w' from by rw [hk1, hk2]; exact hcu)
 have HSP := h_ hsp
 have HPO := h_ hpo
 have hc0 : ∀ {W : World} {cs : Array Value} {v : Value} {x : Url}, OB w0 b 30 (uCells v x) W -> x.host.six.length = 8 -> x.sch = u.sch -> W.cell? ⟨b, 0, none⟩ = some (.string sc) := fun {W cs v x} h1 h2 h3 => by
  rw [h1.cell_is (uAt v x h2).sch, h3, hsc]
 have hk2e : k2.toList = [] ↔ c2 = [] := by rw [hk2, toList_bs]
 have HC0 := h_ (fun (W : World) (v : Value) (x : Url) h1 h2 h3 => @hc0 W #[] v x h1 h2 h3)
 have HKE := h_ hk2e
 have HR := h_ hR
 have hbw := i.lt
 clear hc0 hk2e hR hcu hsp hpo hsc ht hk1 hk2 hcl hp hs hA h8 i
 cases hAA : authF u.sch c1 with
 | none =>
  rw [hAA] at hap
  have HAP := h_ (show ∀ W, Below w.heap.size w W -> Calls Tryz.prog 152 #[.string sc, .string k1] W fun e w' => e = .returned (.tuple #[.agg (aCells A0), .bool false]) ∧ Below W.heap.size W w' from hap)
  have HRN := h_ (show R = none by rw [HR.out, hAA])
  clear hap hAA ha8 hE HPO HKE
  have c0 := HC0.out _ _ _ II.out H8.out rfl
  go_enter Tryz.func121, Tryz.ntmps121
  go_upto_region 2 with (first
   | (go_at_call 22; refine (HSP.out _).mono ?_; rintro e w2 ⟨rfl, hw⟩; subst hw)
   | (go_at_call 151; refine (HCU.out _).mono ?_; rintro e w3 ⟨rfl, hb⟩; have HB3 := h_ hb; have c3 := HC0.out _ _ _ (II.out.below hb) H8.out rfl; clear hb)
   | fail)
  go_upto_region 3 with (first
   | (go_at_call 152; refine (HAP.out _ HB3.out).mono ?_; rintro e w4 ⟨rfl, hb⟩; have HC4 := h_ (stp HB3.out hb); clear hb)
   | (refine alloc_to rfl 160 rfl _ _ (allA _) ?_)
   | (refine storeA rfl (.tmp 7) (.tmp 27) rfl A0 rfl rfl rfl rfl ?_; intro w5 hh hb; have HB5 := h_ (stp HC4.out hb); clear hh hb)
   | fail)
  go_wp2_with fail
  refine ⟨rfl, ?_⟩
  rw [HRN.out]
  exact ⟨rfl, (II.out.below HB5.out).bel, Tn.of_below HB5.out⟩
 | some A =>
  rw [hAA] at hap ha8
  have A8 := h_ (show A.host.six.length = 8 from ha8)
  have AC := h_ (ath_cells A A8.out)
  have HI := h_ (show (Tryz.prog.info? 27).map (·.size) = some (hstCells A.host).length by rw [host_info]; simp [hstCells, A8.out])
  have HAP := h_ (show ∀ W, Below w.heap.size w W -> Calls Tryz.prog 152 #[.string sc, .string k1] W fun e w' => e = .returned (.tuple #[.agg (aCells A), .bool true]) ∧ Below W.heap.size W w' from hap)
  have HRS := h_ (show R = some { askA u A with path := if sp = true ∨ c2 ≠ [] then pathF' u.sch c2 else [] } by rw [HR.out, hAA])
  obtain ⟨PP, hPP⟩ := ex_ (pathF' u.sch c2)
  rw [<- hPP] at HRS HPO
  clear hap hAA ha8 hE HR hPP
  have c0 := HC0.out _ _ _ II.out H8.out rfl
  go_enter Tryz.func121, Tryz.ntmps121
  go_upto_region 2 with (first
   | (go_at_call 22; refine (HSP.out _).mono ?_; rintro e w2 ⟨rfl, hw⟩; subst hw)
   | (go_at_call 151; refine (HCU.out _).mono ?_; rintro e w3 ⟨rfl, hb⟩; have HB3 := h_ hb; have c3 := HC0.out _ _ _ (II.out.below hb) H8.out rfl; clear hb)
   | fail)
  go_upto_region 3 with (first
   | (go_at_call 152; refine (HAP.out _ HB3.out).mono ?_; rintro e w4 ⟨rfl, hb⟩; have HC4 := h_ (stp HB3.out hb); clear hb)
   | (refine alloc_to rfl 160 rfl _ _ (allA _) ?_)
   | (refine storeA rfl (.tmp 7) (.tmp 27) rfl A A8.out rfl rfl rfl ?_; intro w5 hh hb; have K5 := h_ hh; have HB5 := h_ (stp HC4.out hb); have HBT := h_ (show b < w4.heap.size from Nat.lt_of_lt_of_le hbw HC4.out.size); clear hh hb)
   | fail)
  obtain ⟨bt, hbt⟩ := ex_ (w4.heap.size)
  rw [<- hbt] at K5 HBT ⊢
  have hne : bt ≠ b := by have := HBT.out; omega
  have I3 := h_ (II.out.below HB5.out)
  have T3 := h_ (Tn.of_below (b := b) HB5.out)
  clear hbt c0 c3
  go_upto_region 5 with fail
  have I4 := h_ (I3.out.below (bz_drew (bz_refl _)))
  have C4 := h_ (K5.out.keep (bz_drew (bz_refl _)))
  have C3 := K5
  have T4 := h_ (T3.out.below (bz_drew (bz_refl _)))
  refine wp_region_held_drew (S := fun W => CB W bt 160 (aCells A)) (by kernel_rfl) (by first | exact C3.out.keep (bz_drew (bz_refl _)) | exact C9.out | exact C8.out | exact C7.out | exact C6.out | exact C5.out) (fun hHeld => ?_)
  refine tk 0 (v := ?_) rfl (by kernel_rfl) (by kernel_rfl) (by kernel_rfl) (fun _ _ _ h => h) (by rfl) (by assumption) (fun wS hSw => ?_) ?_
  rotate_left
  ·(try dsimp only at hSw); go_simp; first | done | with_reducible rfl
  try simp only [Act.put, List.setIfInBounds_toArray, List.set_cons_zero, List.set_cons_succ]
  refine tk 1 (v := ?_) rfl (by kernel_rfl) (by kernel_rfl) (by kernel_rfl) (fun _ _ _ h => h) (by rfl) (by assumption) (fun wS hSw => ?_) ?_
  rotate_left
  ·(try dsimp only at hSw); go_simp; first | done | with_reducible rfl
  try simp only [Act.put, List.setIfInBounds_toArray, List.set_cons_zero, List.set_cons_succ]
  refine tk 2 (v := ?_) rfl (by kernel_rfl) (by kernel_rfl) (by kernel_rfl) (fun _ _ _ h => h) (by rfl) (by assumption) (fun wS hSw => ?_) ?_
  rotate_left
  ·(try dsimp only at hSw); go_simp; first | done | with_reducible rfl
  try simp only [Act.put, List.setIfInBounds_toArray, List.set_cons_zero, List.set_cons_succ]
  refine tk 3 (v := ?_) rfl (by kernel_rfl) (by kernel_rfl) (by kernel_rfl) (fun _ _ _ h => h) (by rfl) (by assumption) (fun wS hSw => ?_) ?_
  rotate_left
  ·(try dsimp only at hSw); go_simp; first | done | with_reducible rfl
  try simp only [Act.put, List.setIfInBounds_toArray, List.set_cons_zero, List.set_cons_succ]
  refine tk 4 (v := ?_) rfl (by kernel_rfl) (by kernel_rfl) (by kernel_rfl) (fun _ _ _ h => h) (by rfl) (by assumption) (fun wS hSw => ?_) ?_
  rotate_left
  ·(try dsimp only at hSw); go_simp; first | done | with_reducible rfl
  try simp only [Act.put, List.setIfInBounds_toArray, List.set_cons_zero, List.set_cons_succ]
  refine tk 5 (v := ?_) rfl (by kernel_rfl) (by kernel_rfl) (by kernel_rfl) (fun _ _ _ h => h) (by rfl) (by assumption) (fun wS hSw => ?_) ?_
  rotate_left
  ·(try dsimp only at hSw); go_simp; first | done | with_reducible rfl
  try simp only [Act.put, List.setIfInBounds_toArray, List.set_cons_zero, List.set_cons_succ]
  refine tk 6 (v := ?_) rfl (by kernel_rfl) (by kernel_rfl) (by kernel_rfl) (fun _ _ _ h => h) (by rfl) (by assumption) (fun wS hSw => ?_) ?_
  rotate_left
  ·(try dsimp only at hSw)
   refine load1_exec 9 (.tmp 38) ?_ bt 0 (S A.user) _ Tryz.underlying9 rfl ?_ ?_
   ·rfl
   ·rfl
   ·exact hSw.cell_is rfl
  try simp only [Act.put, List.setIfInBounds_toArray, List.set_cons_zero, List.set_cons_succ]
  refine tk 7 (v := ?_) rfl (by kernel_rfl) (by kernel_rfl) (by kernel_rfl) (fun _ _ _ h => h) (by rfl) (by assumption) (fun wS hSw => ?_) ?_
  rotate_left
  ·(try dsimp only at hSw); go_simp; first | done | with_reducible rfl
  try simp only [Act.put, List.setIfInBounds_toArray, List.set_cons_zero, List.set_cons_succ]
  refine tk 8 (v := ?_) rfl (by kernel_rfl) (by kernel_rfl) (by kernel_rfl) (fun _ _ _ h => h) (by rfl) (by assumption) (fun wS hSw => ?_) ?_
  rotate_left
  ·(try dsimp only at hSw)
   refine load1_exec 9 (.tmp 40) ?_ bt 1 (S A.pass) _ Tryz.underlying9 rfl ?_ ?_
   ·rfl
   ·rfl
   ·exact hSw.cell_is rfl
  try simp only [Act.put, List.setIfInBounds_toArray, List.set_cons_zero, List.set_cons_succ]
  refine tk 9 (v := ?_) rfl (by kernel_rfl) (by kernel_rfl) (by kernel_rfl) (fun _ _ _ h => h) (by rfl) (by assumption) (fun wS hSw => ?_) ?_
  rotate_left
  ·(try dsimp only at hSw); go_simp; first | done | with_reducible rfl
  try simp only [Act.put, List.setIfInBounds_toArray, List.set_cons_zero, List.set_cons_succ]
  refine tk 10 (v := ?_) rfl (by kernel_rfl) (by kernel_rfl) (by kernel_rfl) (fun _ _ _ h => h) (by rfl) (by assumption) (fun wS hSw => ?_) ?_
  rotate_left
  ·(try dsimp only at hSw)
   refine loadM_exec 27 (.tmp 42) ?_ bt 2 (hstCells A.host) _ Tryz.underlying27 rfl HI.out ?_ ?_
   ·rfl
   ·rfl
   ·exact hSw.range (ath_hst A)
  try simp only [Act.put, List.setIfInBounds_toArray, List.set_cons_zero, List.set_cons_succ]
  refine tk 11 (v := ?_) rfl (by kernel_rfl) (by kernel_rfl) (by kernel_rfl) (fun _ _ _ h => h) (by rfl) (by assumption) (fun wS hSw => ?_) ?_
  rotate_left
  ·(try dsimp only at hSw); go_simp; first | done | with_reducible rfl
  try simp only [Act.put, List.setIfInBounds_toArray, List.set_cons_zero, List.set_cons_succ]
  refine tk 12 (v := ?_) rfl (by kernel_rfl) (by kernel_rfl) (by kernel_rfl) (fun _ _ _ h => h) (by rfl) (by assumption) (fun wS hSw => ?_) ?_
  rotate_left
  ·(try dsimp only at hSw)
   refine load1_exec 4 (.tmp 44) ?_ bt 13 (.bool A.hasPort) _ Tryz.underlying4 rfl ?_ ?_
   ·rfl
   ·rfl
   ·exact hSw.cell_is AC.out.2.2.1
  try simp only [Act.put, List.setIfInBounds_toArray, List.set_cons_zero, List.set_cons_succ]
  refine tk 13 (v := ?_) rfl (by kernel_rfl) (by kernel_rfl) (by kernel_rfl) (fun _ _ _ h => h) (by rfl) (by assumption) (fun wS hSw => ?_) ?_
  rotate_left
  ·(try dsimp only at hSw); go_simp; first | done | with_reducible rfl
  try simp only [Act.put, List.setIfInBounds_toArray, List.set_cons_zero, List.set_cons_succ]
  refine tk 14 (v := ?_) rfl (by kernel_rfl) (by kernel_rfl) (by kernel_rfl) (fun _ _ _ h => h) (by rfl) (by assumption) (fun wS hSw => ?_) ?_
  rotate_left
  ·(try dsimp only at hSw)
   refine load1_exec 3 (.tmp 46) ?_ bt 14 (.int .i64 A.port) _ Tryz.underlying3 rfl ?_ ?_
   ·rfl
   ·rfl
   ·exact hSw.cell_is AC.out.2.2.2.1
  try simp only [Act.put, List.setIfInBounds_toArray, List.set_cons_zero, List.set_cons_succ]
  refine tk 15 (v := ?_) rfl (by kernel_rfl) (by kernel_rfl) (by kernel_rfl) (fun _ _ _ h => h) (by rfl) (by assumption) (fun wS hSw => ?_) ?_
  rotate_left
  ·(try dsimp only at hSw); go_simp; first | done | with_reducible rfl
  try simp only [Act.put, List.setIfInBounds_toArray, List.set_cons_zero, List.set_cons_succ]
  refine tk 16 (v := ?_) rfl (by kernel_rfl) (by kernel_rfl) (by kernel_rfl) (fun _ _ _ h => h) (by rfl) (by assumption) (fun wS hSw => ?_) ?_
  rotate_left
  ·(try dsimp only at hSw); go_simp; first | done | with_reducible rfl
  try simp only [Act.put, List.setIfInBounds_toArray, List.set_cons_zero, List.set_cons_succ]
  refine rn 17 (by kernel_rfl) rfl (by rfl) (fun K hK => ?_)
  refine put1_wp 9 (.tmp 49) (.tmp 39) rfl w0 b 30 (uCells nilV u) I4.out 1 (S A.user) rfl rfl (u_lt H8.out (by decide)) one_info.1 rfl (uCells nilV { u with usr := A.user }) ((uPut nilV u H8.out).usr _) ?_
  intro x5 i1 t1
  have I5 := h_ i1; have C5 := h_ (t1.cb C4.out hne); have T5 := h_ (T4.out.trans t1)
  clear i1 t1
  refine hK.out _ _ ?_ (fun hHeld => ?_)
  ·first | exact C3.out.keep (bz_drew (bz_refl _)) | exact C9.out | exact C8.out | exact C7.out | exact C6.out | exact C5.out
  clear hK K
  try simp only [Act.put]
  refine tk 18 (v := ?_) rfl (by kernel_rfl) (by kernel_rfl) (by kernel_rfl) (fun _ _ _ h => h) (by rfl) (by assumption) (fun wS hSw => ?_) ?_
  rotate_left
  ·(try dsimp only at hSw); go_simp; first | done | with_reducible rfl
  try simp only [Act.put, List.setIfInBounds_toArray, List.set_cons_zero, List.set_cons_succ]
  refine tk 19 (v := ?_) rfl (by kernel_rfl) (by kernel_rfl) (by kernel_rfl) (fun _ _ _ h => h) (by rfl) (by assumption) (fun wS hSw => ?_) ?_
  rotate_left
  ·(try dsimp only at hSw); go_simp; first | done | with_reducible rfl
  try simp only [Act.put, List.setIfInBounds_toArray, List.set_cons_zero, List.set_cons_succ]
  refine rn 20 (by kernel_rfl) rfl (by rfl) (fun K hK => ?_)
  refine put1_wp 9 (.tmp 51) (.tmp 41) rfl w0 b 30 (uCells nilV { u with usr := A.user }) I5.out 2 (S A.pass) rfl rfl (u_lt H8.out (by decide)) one_info.1 rfl (uCells nilV { u with usr := A.user, pas := A.pass }) ((uPut nilV { u with usr := A.user } H8.out).pas _) ?_
  intro x6 i1 t1
  have I6 := h_ i1; have C6 := h_ (t1.cb C5.out hne); have T6 := h_ (T5.out.trans t1)
  clear i1 t1
  refine hK.out _ _ ?_ (fun hHeld => ?_)
  ·first | exact C3.out.keep (bz_drew (bz_refl _)) | exact C9.out | exact C8.out | exact C7.out | exact C6.out | exact C5.out
  clear hK K
  try simp only [Act.put]
  refine tk 21 (v := ?_) rfl (by kernel_rfl) (by kernel_rfl) (by kernel_rfl) (fun _ _ _ h => h) (by rfl) (by assumption) (fun wS hSw => ?_) ?_
  rotate_left
  ·(try dsimp only at hSw); go_simp; first | done | with_reducible rfl
  try simp only [Act.put, List.setIfInBounds_toArray, List.set_cons_zero, List.set_cons_succ]
  refine tk 22 (v := ?_) rfl (by kernel_rfl) (by kernel_rfl) (by kernel_rfl) (fun _ _ _ h => h) (by rfl) (by assumption) (fun wS hSw => ?_) ?_
  rotate_left
  ·(try dsimp only at hSw); go_simp; first | done | with_reducible rfl
  try simp only [Act.put, List.setIfInBounds_toArray, List.set_cons_zero, List.set_cons_succ]
  refine rn 23 (by kernel_rfl) rfl (by rfl) (fun K hK => ?_)
  refine putN_wp 27 (.tmp 53) (.tmp 43) rfl w0 b 30 (uCells nilV { u with usr := A.user, pas := A.pass }) I6.out 3 (hstCells A.host) rfl rfl (u_le3 H8.out A8.out) HI.out hst_one (uCells nilV { u with usr := A.user, pas := A.pass, host := A.host }) (u_host nilV { u with usr := A.user, pas := A.pass } A.host A8.out H8.out) ?_
  intro x7 i1 t1
  have I7 := h_ i1; have C7 := h_ (t1.cb C6.out hne); have T7 := h_ (T6.out.trans t1)
  clear i1 t1
  refine hK.out _ _ ?_ (fun hHeld => ?_)
  ·first | exact C3.out.keep (bz_drew (bz_refl _)) | exact C9.out | exact C8.out | exact C7.out | exact C6.out | exact C5.out
  clear hK K
  try simp only [Act.put]
  refine tk 24 (v := ?_) rfl (by kernel_rfl) (by kernel_rfl) (by kernel_rfl) (fun _ _ _ h => h) (by rfl) (by assumption) (fun wS hSw => ?_) ?_
  rotate_left
  ·(try dsimp only at hSw); go_simp; first | done | with_reducible rfl
  try simp only [Act.put, List.setIfInBounds_toArray, List.set_cons_zero, List.set_cons_succ]
  refine tk 25 (v := ?_) rfl (by kernel_rfl) (by kernel_rfl) (by kernel_rfl) (fun _ _ _ h => h) (by rfl) (by assumption) (fun wS hSw => ?_) ?_
  rotate_left
  ·(try dsimp only at hSw); go_simp; first | done | with_reducible rfl
  try simp only [Act.put, List.setIfInBounds_toArray, List.set_cons_zero, List.set_cons_succ]
  refine rn 26 (by kernel_rfl) rfl (by rfl) (fun K hK => ?_)
  refine put1_wp 4 (.tmp 55) (.tmp 45) rfl w0 b 30 (uCells nilV { u with usr := A.user, pas := A.pass, host := A.host }) I7.out 14 (.bool A.hasPort) rfl rfl (u_lt A8.out (by decide)) one_info.2.2 rfl (uCells nilV { u with usr := A.user, pas := A.pass, host := A.host, hasPort := A.hasPort }) ((uPut nilV { u with usr := A.user, pas := A.pass, host := A.host } A8.out).hasPort _) ?_
  intro x8 i1 t1
  have I8 := h_ i1; have C8 := h_ (t1.cb C7.out hne); have T8 := h_ (T7.out.trans t1)
  clear i1 t1
  refine hK.out _ _ ?_ (fun hHeld => ?_)
  ·first | exact C3.out.keep (bz_drew (bz_refl _)) | exact C9.out | exact C8.out | exact C7.out | exact C6.out | exact C5.out
  clear hK K
  try simp only [Act.put]
  refine tk 27 (v := ?_) rfl (by kernel_rfl) (by kernel_rfl) (by kernel_rfl) (fun _ _ _ h => h) (by rfl) (by assumption) (fun wS hSw => ?_) ?_
  rotate_left
  ·(try dsimp only at hSw); go_simp; first | done | with_reducible rfl
  try simp only [Act.put, List.setIfInBounds_toArray, List.set_cons_zero, List.set_cons_succ]
  refine tk 28 (v := ?_) rfl (by kernel_rfl) (by kernel_rfl) (by kernel_rfl) (fun _ _ _ h => h) (by rfl) (by assumption) (fun wS hSw => ?_) ?_
  rotate_left
  ·(try dsimp only at hSw); go_simp; first | done | with_reducible rfl
  try simp only [Act.put, List.setIfInBounds_toArray, List.set_cons_zero, List.set_cons_succ]
  refine rn 29 (by kernel_rfl) rfl (by rfl) (fun K hK => ?_)
  refine put1_wp 3 (.tmp 57) (.tmp 47) rfl w0 b 30 (uCells nilV { u with usr := A.user, pas := A.pass, host := A.host, hasPort := A.hasPort }) I8.out 15 (.int .i64 A.port) rfl rfl (u_lt A8.out (by decide)) one_info.2.1 rfl (uCells nilV (askA u A)) ((uPut nilV { u with usr := A.user, pas := A.pass, host := A.host, hasPort := A.hasPort } A8.out).port _) ?_
  intro x9 i1 t1
  have I9 := h_ i1; have C9 := h_ (t1.cb C8.out hne); have T9 := h_ (T8.out.trans t1)
  clear i1 t1
  refine hK.out _ _ ?_ (fun hHeld => ?_)
  ·first | exact C3.out.keep (bz_drew (bz_refl _)) | exact C9.out | exact C8.out | exact C7.out | exact C6.out | exact C5.out
  clear hK K
  try simp only [Act.put]
  refine wpAnyH_done (by kernel_rfl) ?_ _
  have hc1 : (sp = true) ∨ (sp = false ∧ ¬ k2.toList = []) ∨ (sp = false ∧ k2.toList = []) := by cases sp <;> by_cases h : k2.toList = [] <;> simp [h]
  rcases hc1 with rfl | ⟨rfl, he⟩ | ⟨rfl, he⟩
  ·have HU := h_ (show R = some { askA u A with path := PP } by rw [HRS.out]; simp)
   have c9 := HC0.out _ _ _ I9.out A8.out rfl
   go_wp2_with (first
    | (go_at_call 153; refine (HPO.out _).mono ?_; rintro e w10 ⟨v10, rfl, ho, hb⟩; have R10 := h_ ho; have I10 := h_ (I9.out.below hb); have T10 := h_ (T9.out.below hb); have HB10 := h_ (show b < x9.heap.size from I9.out.lt); clear ho hb)
    | (refine put1t rfl 28 (.tmp 71) (.tmp 69) rfl w0 b 30 (uCells nilV (askA u A)) I10.out 18 v10 rfl rfl (u_lt A8.out (by decide)) sl_info (own_one R10.out) (uCells v10 { askA u A with path := PP }) ((uPut nilV (askA u A) A8.out).path _ _) ?_; intro w11 i1 t1; have I11 := h_ i1; have T11 := h_ (T10.out.trans t1); have R11 := h_ (t1.row R10.out HB10.out); clear i1 t1)
    | fail)
   go_end0
   rw [HU.out]
   exact ⟨rfl, ⟨v10, I11.out, own_base (own_st R11.out) T9.out.s⟩, T11.out⟩
  ·have HU := h_ (show R = some { askA u A with path := PP } by rw [HRS.out, if_pos (.inr fun h => he (HKE.out.2 h))])
   have he1 : k2.toList.isEmpty = false := by simpa using he
   have c9 := HC0.out _ _ _ I9.out A8.out rfl
   go_wp2_with (first
    | (go_at_call 153; refine (HPO.out _).mono ?_; rintro e w10 ⟨v10, rfl, ho, hb⟩; have R10 := h_ ho; have I10 := h_ (I9.out.below hb); have T10 := h_ (T9.out.below hb); have HB10 := h_ (show b < x9.heap.size from I9.out.lt); clear ho hb)
    | (refine put1t rfl 28 (.tmp 71) (.tmp 69) rfl w0 b 30 (uCells nilV (askA u A)) I10.out 18 v10 rfl rfl (u_lt A8.out (by decide)) sl_info (own_one R10.out) (uCells v10 { askA u A with path := PP }) ((uPut nilV (askA u A) A8.out).path _ _) ?_; intro w11 i1 t1; have I11 := h_ i1; have T11 := h_ (T10.out.trans t1); have R11 := h_ (t1.row R10.out HB10.out); clear i1 t1)
    | fail)
   go_end0
   rw [HU.out]
   exact ⟨rfl, ⟨v10, I11.out, own_base (own_st R11.out) T9.out.s⟩, T11.out⟩
  ·have HU := h_ (show R = some { askA u A with path := [] } by rw [HRS.out, if_neg (by rintro (h | h); exact (by simp at h); exact h (HKE.out.1 he))])
   have he1 : k2.toList.isEmpty = true := by rw [he]; rfl
   go_wp2_with fail
   go_end0
   rw [HU.out]
   exact ⟨rfl, ⟨nilV, I9.out, own_nil⟩, T9.out⟩

theorem u_res {f : Func} {k : Nat} (hf : f.results = #[.cell k 30]) {tmps : Array Value} {w0 w2 : World} {b : Nat} {pv : Value} {u : Url} {Post : Ending -> World -> Prop} (h8 : u.host.six.length = 8) (hk : tmps.getD k undef = .pointer (some ⟨b, 0, none⟩))
  (i : OB w0 b 30 (uCells pv u) w2) (hP : Post (.returned (.agg (uCells pv u))) w2) :
  bodyPost Tryz.prog f Post Exit.ret { tmps := tmps, defers := [] } w2 := by
 have h2' : tmps[k]?.getD undef = .pointer (some ⟨b, 0, none⟩) := by simpa using hk
 have hl := i.load (P := Tryz.prog) 30 _ Tryz.underlying30 rfl (by rw [u_size h8]; exact u_info)
 refine bodyPost_ret (v := .agg (uCells pv u)) ?_ rfl hP
 simp [results, hf, asAddr, h2', hl]
theorem u_whole {pv pv2 : Value} {u u2 : Url} (h : u.host.six.length = 8) (h2 : u2.host.six.length = 8) : putC (uCells pv u) 0 (urlCells pv2 u2) = uCells pv2 u2 := putC_whole _ _ (by rw [u_len h, u_len h2])
theorem bldSt (sc : Bytes) (hq : Bool) (q : Bytes) (hf : Bool) (f : Bytes) : ∀ w, (Instr.build 30 #[(0, S sc), (9, .bool hq), (10, S q), (11, .bool hf), (12, S f)]).run Tryz.prog w = .ok (.agg (uCells nilV { U0 with sch := sc, hasQ := hq, q := q, hasF := hf, f := f })) w := fun w => by kernel_rfl
theorem bldSt_exec {o : Oper} {a : Act} {w : World} (x1 x2 x3 x4 x5 : Operand) (ho : o.op = .build 30 #[(0, x1), (9, x2), (10, x3), (11, x4), (12, x5)]) (sc : Bytes) (hq : Bool) (q : Bytes) (hf : Bool) (f : Bytes)
  (h1 : a.eval x1 = S sc) (h2 : a.eval x2 = .bool hq) (h3 : a.eval x3 = S q) (h4 : a.eval x4 = .bool hf) (h5 : a.eval x5 = S f) : (execOp a.eval o).run Tryz.prog w = .ok (.value (.agg (uCells nilV { U0 with sch := sc, hasQ := hq, q := q, hasF := hf, f := f }))) w := by
 have e := bldSt sc hq q hf f w
 unfold execOp
 simp only [ho, Sem.run_bind, Sem.run_pure, Result.andThen_ok, List.map_toArray, List.map_cons, List.map_nil, h1, h2, h3, h4, h5, e]
theorem start_any (sch : Bytes) (p : Prt) (w : World) (hq : p.q.length <= 1024000000) (hf : p.f.length <= 1024000000) : Calls Tryz.prog 120 #[.string (bs sch), .agg (pCells p)] w fun e w' => e = .returned (.agg (uCells nilV (startF sch p))) ∧ Below w.heap.size w w' := by
 have HSP := h_ (fun W => special_any sch W)
 have HF := h_ (fun W => pencode_any 1 p.f W hf)
 have H2 := h_ (fun W => pencode_any 2 p.q W hq)
 have H3 := h_ (fun W => pencode_any 3 p.q W hq)
 obtain ⟨R, hR⟩ := ex_ (startF sch p)
 rw [<- hR]
 unfold startF at hR
 have hc : spF sch = true ∨ spF sch = false := by cases spF sch <;> simp
 generalize spF sch = sp at *
 have HR := h_ hR
 clear hR hq hf
 go_enter Tryz.func120, Tryz.ntmps120
 go_upto_region 1 with (first
  | (refine alloc_to rfl 30 rfl _ _ (allUrl _) ?_)
  | fail)
 have hx := CB.new w 35 (pCells p)
 have hb := (Below.refl w.heap.size w).alloc (Nat.le_refl _) (.cells (pCells p) 35)
 obtain ⟨w2, hw2⟩ := ex_ (w.alloc (.cells (pCells p) 35))
 have hz : w2.heap.size = w.heap.size + 1 := by rw [hw2]; simp
 rw [<- hw2] at hx hb ⊢
 have hu := OB.fresh w2 30 (uCells nilV U0)
 have hb2 := (Below.refl w2.heap.size w2).alloc (Nat.le_refl _) (.cells (uCells nilV U0) 30)
 obtain ⟨w3, hw3⟩ := ex_ (w2.alloc (.cells (uCells nilV U0) 30))
 rw [<- hw3] at hu hb2 ⊢
 rw [hz] at hu
 try rw [hz]
 have hx3 := hx.keep hb2
 have hu3 : OB w (w.heap.size + 1) 30 (uCells nilV U0) w3 := ⟨hu.a, by omega, stp hb hb2⟩
 obtain ⟨bx, hbx⟩ := ex_ (w.heap.size)
 obtain ⟨bu, hbu⟩ := ex_ (w.heap.size + 1)
 rw [<- hbu] at hu3 ⊢
 rw [<- hbx] at hx3 ⊢
 have hne : bx ≠ bu := by omega
 have C3 := h_ hx3
 have I3 := h_ hu3
 clear hx hb hw2 hz hu hb2 hw3 hx3 hu3 hbx hbu
 rcases hc with rfl | rfl
 ·go_upto_region 4 with (first
   | (go_at_call 22; refine (HSP.out _).mono ?_; rintro e w4 ⟨rfl, hw⟩; subst hw)
   | fail)
  have HRR := h_ (show R = { U0 with sch := sch, hasQ := p.hasQ, q := pcB 3 p.q, hasF := p.hasF, f := pcB 1 p.f } by rw [HR.out]; rfl)
  have HQ := H3
  refine wp_region_held_drew (S := fun W => CB W bx 35 (pCells p)) (by kernel_rfl) (by first | exact C3.out.keep (bz_drew (bz_refl _)) | exact C6.out | exact C5.out | exact C4.out) (fun hHeld => ?_)
  refine tk 0 (v := ?_) rfl (by kernel_rfl) (by kernel_rfl) (by kernel_rfl) (fun _ _ _ h => h) (by rfl) (by assumption) (fun wS hSw => ?_) ?_
  rotate_left
  ·(try dsimp only at hSw); go_simp; first | done | with_reducible rfl
  try simp only [Act.put, List.setIfInBounds_toArray, List.set_cons_zero, List.set_cons_succ]
  refine tk 1 (v := ?_) rfl (by kernel_rfl) (by kernel_rfl) (by kernel_rfl) (fun _ _ _ h => h) (by rfl) (by assumption) (fun wS hSw => ?_) ?_
  rotate_left
  ·(try dsimp only at hSw); go_simp; first | done | with_reducible rfl
  try simp only [Act.put, List.setIfInBounds_toArray, List.set_cons_zero, List.set_cons_succ]
  refine tk 2 (v := ?_) rfl (by kernel_rfl) (by kernel_rfl) (by kernel_rfl) (fun _ _ _ h => h) (by rfl) (by assumption) (fun wS hSw => ?_) ?_
  rotate_left
  ·(try dsimp only at hSw)
   refine load1_exec 4 (.tmp 9) ?_ bx 3 (.bool p.hasQ) _ Tryz.underlying4 rfl ?_ ?_
   ·rfl
   ·rfl
   ·exact hSw.cell_is rfl
  try simp only [Act.put, List.setIfInBounds_toArray, List.set_cons_zero, List.set_cons_succ]
  refine tk 3 (v := ?_) rfl (by kernel_rfl) (by kernel_rfl) (by kernel_rfl) (fun _ _ _ h => h) (by rfl) (by assumption) (fun wS hSw => ?_) ?_
  rotate_left
  ·(try dsimp only at hSw); go_simp; first | done | with_reducible rfl
  try simp only [Act.put, List.setIfInBounds_toArray, List.set_cons_zero, List.set_cons_succ]
  refine tk 4 (v := ?_) rfl (by kernel_rfl) (by kernel_rfl) (by kernel_rfl) (fun _ _ _ h => h) (by rfl) (by assumption) (fun wS hSw => ?_) ?_
  rotate_left
  ·(try dsimp only at hSw)
   refine load1_exec 9 (.tmp 11) ?_ bx 4 (S p.q) _ Tryz.underlying9 rfl ?_ ?_
   ·rfl
   ·rfl
   ·exact hSw.cell_is rfl
  try simp only [Act.put, List.setIfInBounds_toArray, List.set_cons_zero, List.set_cons_succ]
  refine tk 5 (v := ?_) rfl (by kernel_rfl) (by kernel_rfl) (by kernel_rfl) (fun _ _ _ h => h) (by rfl) (by assumption) (fun wS hSw => ?_) ?_
  rotate_left
  ·(try dsimp only at hSw); go_simp; first | done | with_reducible rfl
  try simp only [Act.put, List.setIfInBounds_toArray, List.set_cons_zero, List.set_cons_succ]
  refine tk 7 (v := ?_) rfl (by kernel_rfl) (by kernel_rfl) (by kernel_rfl) (fun _ _ _ h => h) (by rfl) (by assumption) (fun wS hSw => ?_) ?_
  rotate_left
  ·(try dsimp only at hSw); go_simp; first | done | with_reducible rfl
  try simp only [Act.put, List.setIfInBounds_toArray, List.set_cons_zero, List.set_cons_succ]
  refine tk 8 (v := ?_) rfl (by kernel_rfl) (by kernel_rfl) (by kernel_rfl) (fun _ _ _ h => h) (by rfl) (by assumption) (fun wS hSw => ?_) ?_
  rotate_left
  ·(try dsimp only at hSw)
   refine load1_exec 4 (.tmp 15) ?_ bx 5 (.bool p.hasF) _ Tryz.underlying4 rfl ?_ ?_
   ·rfl
   ·rfl
   ·exact hSw.cell_is rfl
  try simp only [Act.put, List.setIfInBounds_toArray, List.set_cons_zero, List.set_cons_succ]
  refine tk 9 (v := ?_) rfl (by kernel_rfl) (by kernel_rfl) (by kernel_rfl) (fun _ _ _ h => h) (by rfl) (by assumption) (fun wS hSw => ?_) ?_
  rotate_left
  ·(try dsimp only at hSw); go_simp; first | done | with_reducible rfl
  try simp only [Act.put, List.setIfInBounds_toArray, List.set_cons_zero, List.set_cons_succ]
  refine tk 10 (v := ?_) rfl (by kernel_rfl) (by kernel_rfl) (by kernel_rfl) (fun _ _ _ h => h) (by rfl) (by assumption) (fun wS hSw => ?_) ?_
  rotate_left
  ·(try dsimp only at hSw)
   refine load1_exec 9 (.tmp 17) ?_ bx 6 (S p.f) _ Tryz.underlying9 rfl ?_ ?_
   ·rfl
   ·rfl
   ·exact hSw.cell_is rfl
  try simp only [Act.put, List.setIfInBounds_toArray, List.set_cons_zero, List.set_cons_succ]
  refine rn 6 (by kernel_rfl) rfl (by rfl) (fun K hK => ?_)
  go_simp
  refine (HQ.out _).mono ?_
  rintro e w5 ⟨rfl, hb5⟩
  have C4 := h_ ((C3.out.keep (bz_drew (bz_refl _))).keep hb5); have I4 := h_ ((I3.out.below (bz_drew (bz_refl _))).below hb5)
  clear hb5
  refine hK.out _ _ ?_ (fun hHeld => ?_)
  ·first | exact C3.out.keep (bz_drew (bz_refl _)) | exact C6.out | exact C5.out | exact C4.out
  clear hK K
  try simp only [Act.put, List.setIfInBounds_toArray, List.set_cons_zero, List.set_cons_succ]
  refine rn 11 (by kernel_rfl) rfl (by rfl) (fun K hK => ?_)
  go_simp
  refine (HF.out _).mono ?_
  rintro e w6 ⟨rfl, hb6⟩
  have C5 := h_ (C4.out.keep hb6); have I5 := h_ (I4.out.below hb6)
  clear hb6
  refine hK.out _ _ ?_ (fun hHeld => ?_)
  ·first | exact C3.out.keep (bz_drew (bz_refl _)) | exact C6.out | exact C5.out | exact C4.out
  clear hK K
  try simp only [Act.put, List.setIfInBounds_toArray, List.set_cons_zero, List.set_cons_succ]
  refine tk 12 (v := ?_) rfl (by kernel_rfl) (by kernel_rfl) (by kernel_rfl) (fun _ _ _ h => h) (by rfl) (by assumption) (fun wS hSw => ?_) ?_
  rotate_left
  ·(try dsimp only at hSw)
   refine bldSt_exec (.tmp 8) (.tmp 10) (.tmp 14) (.tmp 16) (.tmp 19) ?_ sch p.hasQ (pcB 3 p.q) p.hasF (pcB 1 p.f) ?_ ?_ ?_ ?_ ?_ <;> rfl
  try simp only [Act.put, List.setIfInBounds_toArray, List.set_cons_zero, List.set_cons_succ]
  refine rn 13 (by kernel_rfl) rfl (by rfl) (fun K hK => ?_)
  refine putN_wp 30 (.tmp 4) (.tmp 20) rfl w bu 30 (uCells nilV U0) I5.out 0 (urlCells nilV { U0 with sch := sch, hasQ := p.hasQ, q := pcB 3 p.q, hasF := p.hasF, f := pcB 1 p.f }) rfl rfl (Nat.le_of_eq rfl) u_info (u_one rfl) (uCells nilV { U0 with sch := sch, hasQ := p.hasQ, q := pcB 3 p.q, hasF := p.hasF, f := pcB 1 p.f }) (u_whole rfl rfl) ?_
  intro w7 i7 t7
  have I6 := h_ i7; have C6 := h_ (t7.cb C5.out hne)
  clear i7 t7
  refine hK.out _ _ ?_ (fun hHeld => ?_)
  ·first | exact C3.out.keep (bz_drew (bz_refl _)) | exact C6.out | exact C5.out | exact C4.out
  clear hK K
  try simp only [Act.put]
  refine wpAnyH_done (by kernel_rfl) ?_ _
  go_wp2_with fail
  rw [HRR.out]
  exact u_res Tryz.results120 rfl rfl I6.out ⟨rfl, I6.out.bel⟩
 ·go_upto_region 4 with (first
   | (go_at_call 22; refine (HSP.out _).mono ?_; rintro e w4 ⟨rfl, hw⟩; subst hw)
   | fail)
  have HRR := h_ (show R = { U0 with sch := sch, hasQ := p.hasQ, q := pcB 2 p.q, hasF := p.hasF, f := pcB 1 p.f } by rw [HR.out]; rfl)
  have HQ := H2
  refine wp_region_held_drew (S := fun W => CB W bx 35 (pCells p)) (by kernel_rfl) (by first | exact C3.out.keep (bz_drew (bz_refl _)) | exact C6.out | exact C5.out | exact C4.out) (fun hHeld => ?_)
  refine tk 0 (v := ?_) rfl (by kernel_rfl) (by kernel_rfl) (by kernel_rfl) (fun _ _ _ h => h) (by rfl) (by assumption) (fun wS hSw => ?_) ?_
  rotate_left
  ·(try dsimp only at hSw); go_simp; first | done | with_reducible rfl
  try simp only [Act.put, List.setIfInBounds_toArray, List.set_cons_zero, List.set_cons_succ]
  refine tk 1 (v := ?_) rfl (by kernel_rfl) (by kernel_rfl) (by kernel_rfl) (fun _ _ _ h => h) (by rfl) (by assumption) (fun wS hSw => ?_) ?_
  rotate_left
  ·(try dsimp only at hSw); go_simp; first | done | with_reducible rfl
  try simp only [Act.put, List.setIfInBounds_toArray, List.set_cons_zero, List.set_cons_succ]
  refine tk 2 (v := ?_) rfl (by kernel_rfl) (by kernel_rfl) (by kernel_rfl) (fun _ _ _ h => h) (by rfl) (by assumption) (fun wS hSw => ?_) ?_
  rotate_left
  ·(try dsimp only at hSw)
   refine load1_exec 4 (.tmp 9) ?_ bx 3 (.bool p.hasQ) _ Tryz.underlying4 rfl ?_ ?_
   ·rfl
   ·rfl
   ·exact hSw.cell_is rfl
  try simp only [Act.put, List.setIfInBounds_toArray, List.set_cons_zero, List.set_cons_succ]
  refine tk 3 (v := ?_) rfl (by kernel_rfl) (by kernel_rfl) (by kernel_rfl) (fun _ _ _ h => h) (by rfl) (by assumption) (fun wS hSw => ?_) ?_
  rotate_left
  ·(try dsimp only at hSw); go_simp; first | done | with_reducible rfl
  try simp only [Act.put, List.setIfInBounds_toArray, List.set_cons_zero, List.set_cons_succ]
  refine tk 4 (v := ?_) rfl (by kernel_rfl) (by kernel_rfl) (by kernel_rfl) (fun _ _ _ h => h) (by rfl) (by assumption) (fun wS hSw => ?_) ?_
  rotate_left
  ·(try dsimp only at hSw)
   refine load1_exec 9 (.tmp 11) ?_ bx 4 (S p.q) _ Tryz.underlying9 rfl ?_ ?_
   ·rfl
   ·rfl
   ·exact hSw.cell_is rfl
  try simp only [Act.put, List.setIfInBounds_toArray, List.set_cons_zero, List.set_cons_succ]
  refine tk 5 (v := ?_) rfl (by kernel_rfl) (by kernel_rfl) (by kernel_rfl) (fun _ _ _ h => h) (by rfl) (by assumption) (fun wS hSw => ?_) ?_
  rotate_left
  ·(try dsimp only at hSw); go_simp; first | done | with_reducible rfl
  try simp only [Act.put, List.setIfInBounds_toArray, List.set_cons_zero, List.set_cons_succ]
  refine tk 7 (v := ?_) rfl (by kernel_rfl) (by kernel_rfl) (by kernel_rfl) (fun _ _ _ h => h) (by rfl) (by assumption) (fun wS hSw => ?_) ?_
  rotate_left
  ·(try dsimp only at hSw); go_simp; first | done | with_reducible rfl
  try simp only [Act.put, List.setIfInBounds_toArray, List.set_cons_zero, List.set_cons_succ]
  refine tk 8 (v := ?_) rfl (by kernel_rfl) (by kernel_rfl) (by kernel_rfl) (fun _ _ _ h => h) (by rfl) (by assumption) (fun wS hSw => ?_) ?_
  rotate_left
  ·(try dsimp only at hSw)
   refine load1_exec 4 (.tmp 15) ?_ bx 5 (.bool p.hasF) _ Tryz.underlying4 rfl ?_ ?_
   ·rfl
   ·rfl
   ·exact hSw.cell_is rfl
  try simp only [Act.put, List.setIfInBounds_toArray, List.set_cons_zero, List.set_cons_succ]
  refine tk 9 (v := ?_) rfl (by kernel_rfl) (by kernel_rfl) (by kernel_rfl) (fun _ _ _ h => h) (by rfl) (by assumption) (fun wS hSw => ?_) ?_
  rotate_left
  ·(try dsimp only at hSw); go_simp; first | done | with_reducible rfl
  try simp only [Act.put, List.setIfInBounds_toArray, List.set_cons_zero, List.set_cons_succ]
  refine tk 10 (v := ?_) rfl (by kernel_rfl) (by kernel_rfl) (by kernel_rfl) (fun _ _ _ h => h) (by rfl) (by assumption) (fun wS hSw => ?_) ?_
  rotate_left
  ·(try dsimp only at hSw)
   refine load1_exec 9 (.tmp 17) ?_ bx 6 (S p.f) _ Tryz.underlying9 rfl ?_ ?_
   ·rfl
   ·rfl
   ·exact hSw.cell_is rfl
  try simp only [Act.put, List.setIfInBounds_toArray, List.set_cons_zero, List.set_cons_succ]
  refine rn 6 (by kernel_rfl) rfl (by rfl) (fun K hK => ?_)
  go_simp
  refine (HQ.out _).mono ?_
  rintro e w5 ⟨rfl, hb5⟩
  have C4 := h_ ((C3.out.keep (bz_drew (bz_refl _))).keep hb5); have I4 := h_ ((I3.out.below (bz_drew (bz_refl _))).below hb5)
  clear hb5
  refine hK.out _ _ ?_ (fun hHeld => ?_)
  ·first | exact C3.out.keep (bz_drew (bz_refl _)) | exact C6.out | exact C5.out | exact C4.out
  clear hK K
  try simp only [Act.put, List.setIfInBounds_toArray, List.set_cons_zero, List.set_cons_succ]
  refine rn 11 (by kernel_rfl) rfl (by rfl) (fun K hK => ?_)
  go_simp
  refine (HF.out _).mono ?_
  rintro e w6 ⟨rfl, hb6⟩
  have C5 := h_ (C4.out.keep hb6); have I5 := h_ (I4.out.below hb6)
  clear hb6
  refine hK.out _ _ ?_ (fun hHeld => ?_)
  ·first | exact C3.out.keep (bz_drew (bz_refl _)) | exact C6.out | exact C5.out | exact C4.out
  clear hK K
  try simp only [Act.put, List.setIfInBounds_toArray, List.set_cons_zero, List.set_cons_succ]
  refine tk 12 (v := ?_) rfl (by kernel_rfl) (by kernel_rfl) (by kernel_rfl) (fun _ _ _ h => h) (by rfl) (by assumption) (fun wS hSw => ?_) ?_
  rotate_left
  ·(try dsimp only at hSw)
   refine bldSt_exec (.tmp 8) (.tmp 10) (.tmp 14) (.tmp 16) (.tmp 19) ?_ sch p.hasQ (pcB 2 p.q) p.hasF (pcB 1 p.f) ?_ ?_ ?_ ?_ ?_ <;> rfl
  try simp only [Act.put, List.setIfInBounds_toArray, List.set_cons_zero, List.set_cons_succ]
  refine rn 13 (by kernel_rfl) rfl (by rfl) (fun K hK => ?_)
  refine putN_wp 30 (.tmp 4) (.tmp 20) rfl w bu 30 (uCells nilV U0) I5.out 0 (urlCells nilV { U0 with sch := sch, hasQ := p.hasQ, q := pcB 2 p.q, hasF := p.hasF, f := pcB 1 p.f }) rfl rfl (Nat.le_of_eq rfl) u_info (u_one rfl) (uCells nilV { U0 with sch := sch, hasQ := p.hasQ, q := pcB 2 p.q, hasF := p.hasF, f := pcB 1 p.f }) (u_whole rfl rfl) ?_
  intro w7 i7 t7
  have I6 := h_ i7; have C6 := h_ (t7.cb C5.out hne)
  clear i7 t7
  refine hK.out _ _ ?_ (fun hHeld => ?_)
  ·first | exact C3.out.keep (bz_drew (bz_refl _)) | exact C6.out | exact C5.out | exact C4.out
  clear hK K
  try simp only [Act.put]
  refine wpAnyH_done (by kernel_rfl) ?_ _
  go_wp2_with fail
  rw [HRR.out]
  exact u_res Tryz.results120 rfl rfl I6.out ⟨rfl, I6.out.bel⟩

def JoinP (w : World) : Option Url -> Ending -> World -> Prop
 | none, e, w' => e = NoN ∧ Below w.heap.size w w'
 | some u, e, w' => ∃ pv, e = .returned (.agg (uCells pv u)) ∧ w'.ownsRow w.heap.size 9 1 pv u.path.length (Strs u.path) ∧ Below w.heap.size w w'
theorem OB.of {w0 W : World} {b : Nat} {T : TypeId} {cs : Array Value} (i : CB W b T cs) (hle : w0.heap.size <= b) (hb : Below w0.heap.size w0 W) : OB w0 b T cs W := ⟨i.a, hle, hb⟩
theorem own_below' {W W' : World} {base e n : Nat} {v : Value} {xs : List Value} (h : W.ownsRow base e 1 v n xs) (hb : Below W.heap.size W W') : W'.ownsRow base e 1 v n xs := own_below h hb
section
variable {ops : Array Oper} {rest : List Oper} {o : Oper} {a : Act} {w : World} {Q : Exit -> Act -> World -> Prop}
theorem getU (hgd : o.guard = none) (x : Operand) (ho : o.op = .load 30 x) (w0 : World) (b : Nat) (pv : Value) (u : Url) (i : OB w0 b 30 (uCells pv u) w) (h8 : u.host.six.length = 8) (hx : a.eval x = .pointer (some ⟨b, 0, none⟩))
  (K : wpList Tryz.prog ops Q rest (a.put o.dst (.agg (uCells pv u))) w) : wpList Tryz.prog ops Q (o :: rest) a w :=
 getN hgd _ x ho w0 b 30 (uCells pv u) i _ hx Tryz.underlying30 rfl (by rw [u_size h8]; exact u_info) K
theorem putU (hgd : o.guard = none) (x y : Operand) (ho : o.op = .store 30 x y) (w0 : World) (b : Nat) (i : OB w0 b 30 (uCells nilV U0) w) (pv : Value) (u : Url) (h8 : u.host.six.length = 8) (h1 : pv.oneCell' = true)
  (hx : a.eval x = .pointer (some ⟨b, 0, none⟩)) (hy : a.eval y = .agg (uCells pv u))
  (K : ∀ w', OB w0 b 30 (uCells pv u) w' -> Tn b w w' -> wpList Tryz.prog ops Q rest (a.put o.dst undef) w') : wpList Tryz.prog ops Q (o :: rest) a w :=
 putNt hgd _ x y ho w0 b 30 (uCells nilV U0) i 0 (urlCells pv u) hx hy (by rw [u_len h8]; exact Nat.le_of_eq rfl) (by rw [u_len h8]; exact u_info) (u_one h1) (uCells pv u) (u_whole rfl h8) K
theorem getP (hgd : Region.wanted o (yielded ops a.tmps) = true) (x : Operand) (ho : o.op = .load 35 x) (b : Nat) (p : Prt) (i : CB w b 35 (pCells p)) (hx : a.eval x = .pointer (some ⟨b, 0, none⟩))
  (K : wpList Tryz.prog ops Q rest (a.put o.dst (.agg (pCells p))) w) : wpList Tryz.prog ops Q (o :: rest) a w :=
 loadC hgd _ x ho b (pCells p) _ Tryz.underlying35 rfl p_info hx i K
end
structure K2 (bx br b : Nat) (p : Prt) (W : World) : Prop where
 x : CB W bx 35 (pCells p)
 r : CB W br 30 (uCells nilV U0)
 nx : bx ≠ b
 nr : br ≠ b
theorem K2.below {bx br b : Nat} {p : Prt} {W W' : World} (k : K2 bx br b p W) (h : Below W.heap.size W W') : K2 bx br b p W' := ⟨k.x.keep h, k.r.keep h, k.nx, k.nr⟩
theorem K2.tn {bx br b : Nat} {p : Prt} {W W' : World} (k : K2 bx br b p W) (h : Tn b W W') : K2 bx br b p W' := ⟨h.cb k.x k.nx, h.cb k.r k.nr, k.nx, k.nr⟩
structure Rs (s : Bytes) : Prop where
 l : s.length <= 307200000
 a : ∀ sp k, AShort (acutF sp (s.drop k)).1
 n : ∀ sp k, Short (acutF sp (s.drop k)).1
theorem rs_of {s : Bytes} (h : s.length <= 1048576) : Rs s := by
 have hd : ∀ sp k, (acutF sp (s.drop k)).1.length <= 1048576 := fun sp k => by have := (acut_len sp (s.drop k)).1; rw [List.length_drop] at this; omega
 exact ⟨by omega, fun sp k => ashort_of (hd sp k), fun sp k => short_of (hd sp k)⟩
theorem cp_any (l m : Bytes) (w : World) : Calls Tryz.prog 131 #[.string (bs l), .string (bs m)] w fun e w' => e = .returned (.tuple #[S (Lib.trimPrefix l m), .bool (Lib.hasPrefix l m)]) ∧ w' = w := by
 have h := Any.strings_CutPrefix Tryz.laysCut (bs l) (bs m) w
 rw [show (bs l).data.toList = l from ls_bs l, show (bs m).data.toList = m from ls_bs m] at h
 exact h
theorem hpSS (l : Bytes) : Lib.hasPrefix l [47, 47] = true ↔ ∃ r, l = 47 :: 47 :: r := by
 unfold Lib.hasPrefix
 constructor
 ·intro h
  obtain ⟨r, rfl⟩ := List.isPrefixOf_iff_prefix.1 h
  exact ⟨r, rfl⟩
 ·rintro ⟨r, rfl⟩
  exact List.isPrefixOf_iff_prefix.2 ⟨r, rfl⟩
theorem hpS (l : Bytes) : Lib.hasPrefix l [47] = true ↔ ∃ r, l = 47 :: r := by
 unfold Lib.hasPrefix
 constructor
 ·intro h
  obtain ⟨r, rfl⟩ := List.isPrefixOf_iff_prefix.1 h
  exact ⟨r, rfl⟩
 ·rintro ⟨r, rfl⟩
  exact List.isPrefixOf_iff_prefix.2 ⟨r, rfl⟩
theorem ask_six {u v : Url} {s : Bytes} (h : askF u s = some v) : v.host.six.length = 8 := by
 have h8 := @ath_six u.sch (acutF (spF u.sch) s).1
 unfold askF at h
 cases hA : authF u.sch (acutF (spF u.sch) s).1 with
 | none => simp [hA] at h
 | some a =>
  rw [hA] at h8
  simp only [hA, Option.some.injEq] at h
  rw [<- h]
  exact h8

theorem otherU_A {p : Prt} {r : Bytes} (h : p.rest = 47 :: 47 :: r) : otherU p = askF (startF p.sch p) r := by
 unfold otherU
 rw [h]
 rfl
theorem otherU_B {p : Prt} {r : Bytes} (h : p.rest = 47 :: r) (h2 : ¬ ∃ t, p.rest = 47 :: 47 :: t) : otherU p = some { startF p.sch p with path := segP (startF p.sch p).sch [] r } := by
 unfold otherU
 rw [h] at h2 ⊢
 cases r with
 | nil => rfl
 | cons c t =>
  by_cases hc : c = 47
  ·subst hc
   exact absurd ⟨t, rfl⟩ h2
  ·dsimp only
   split
   ·rename_i r' he
    exact absurd (List.cons.inj (List.cons.inj he).2).1 hc
   ·rename_i r' _ he
    have := (List.cons.inj he).2
    subst this
    rfl
   ·rename_i s' _ h3
    exact (h3 _ rfl).elim
theorem otherU_C {p : Prt} (h2 : ¬ ∃ t, p.rest = 47 :: t) : otherU p = some { startF p.sch p with opq := true, flat := if (p.hasQ = true ∨ p.hasF = true) ∧ (pcB 0 p.rest).getLast? = some 32 then (pcB 0 p.rest).dropLast ++ [37, 50, 48] else pcB 0 p.rest } := by
 unfold otherU
 split
 ·rename_i r he
  exact absurd ⟨_, he⟩ h2
 ·rename_i r _ he
  exact absurd ⟨_, he⟩ h2
 ·rfl
theorem own_nil' {w : World} {base e : Nat} {l : List Bytes} (h : l = []) : w.ownsRow base e 1 nilV l.length (Strs l) := by rw [h]; exact own_nil
theorem hs32 (l : Bytes) : Lib.hasSuffix l [32] = true ↔ l.getLast? = some 32 := by
 unfold Lib.hasSuffix
 rw [List.isSuffixOf_iff_suffix]
 constructor
 ·rintro ⟨r, rfl⟩
  simp
 ·intro h
  obtain ⟨r, rfl⟩ := List.getLast?_eq_some_iff.1 h
  exact ⟨r, rfl⟩
theorem ts32 (l : Bytes) (h : Lib.hasSuffix l [32] = true) : Lib.trimSuffix l [32] = l.dropLast := by
 unfold Lib.trimSuffix
 rw [if_pos h, List.dropLast_eq_take]
 rfl
theorem pother_any (p : Prt) (w : World) (hr : Rs p.rest) (hq : p.q.length <= 307200000) (hf : p.f.length <= 307200000) (hE : Env w) : Calls Tryz.prog 123 #[.agg (pCells p)] w (JoinP w (otherU p)) := by
 have HST := h_ (fun W => start_any p.sch p W (by omega) (by omega))
 have hc2 := fun W => cp_any p.rest [47, 47] W
 have hc1 := fun W => cp_any p.rest [47] W
 have hcs := fun W => cs_any (pcB 0 p.rest) [32] W (by have := pcB_len 0 p.rest; have := hr.l; omega)
 have hen := fun W => pencode_any 0 p.rest W (by have := hr.l; omega)
 obtain ⟨us, hus⟩ := ex_ (startF p.sch p)
 have h8 : us.host.six.length = 8 := by rw [hus]; rfl
 have hsc : us.sch = p.sch := by rw [hus]; rfl
 have hup : us.path = [] := by rw [hus]; rfl
 rw [<- hus] at HST
 obtain ⟨R, hR⟩ := ex_ (otherU p)
 rw [<- hR]
 have HE := h_ hE
 have HRS := h_ hr
 have H8 := h_ h8
 have HSC := h_ hsc
 have HUP := h_ hup
 rw [show bs [47, 47] = ⟨#[47, 47]⟩ from rfl] at hc2
 rw [show bs [47] = ⟨#[47]⟩ from rfl] at hc1
 rw [show bs [32] = ⟨#[32]⟩ from rfl] at hcs
 have HCS := h_ hcs
 have HEN := h_ hen
 have HC1 := h_ hc1
 have HC2 := h_ hc2
 have HR := h_ hR
 have HUS := h_ hus
 clear hr hq hf hE h8 hsc hup hc2 hc1 hcs hen hR hus
 go_enter Tryz.func123, Tryz.ntmps123
 go_upto_region 1 with (first
  | (refine alloc_to rfl 30 rfl _ _ (allUrl _) ?_)
  | fail)
 have hx := CB.new w 35 (pCells p)
 have hb := (Below.refl w.heap.size w).alloc (Nat.le_refl _) (.cells (pCells p) 35)
 obtain ⟨w2, hw2⟩ := ex_ (w.alloc (.cells (pCells p) 35))
 have hz : w2.heap.size = w.heap.size + 1 := by rw [hw2]; simp
 rw [<- hw2] at hx hb ⊢
 have hu := CB.new w2 30 (uCells nilV U0)
 have hb2 := (Below.refl w2.heap.size w2).alloc (Nat.le_refl _) (.cells (uCells nilV U0) 30)
 obtain ⟨w3, hw3⟩ := ex_ (w2.alloc (.cells (uCells nilV U0) 30))
 have hz3 : w3.heap.size = w.heap.size + 2 := by rw [hw3]; simp [hz]
 rw [<- hw3] at hu hb2 ⊢
 rw [hz] at hu
 try rw [hz]
 have hx3 := hx.keep hb2
 obtain ⟨bx, hbx⟩ := ex_ (w.heap.size)
 obtain ⟨br, hbr⟩ := ex_ (w.heap.size + 1)
 rw [<- hbr] at hu ⊢
 rw [<- hbx] at hx3 ⊢
 have hlx : bx < w3.heap.size := by omega
 have hlr : br < w3.heap.size := by omega
 have HLE := h_ (show w.heap.size <= br by omega)
 have B3 := h_ (stp hb hb2)
 have X3 := h_ hx3
 have R3 := h_ hu
 clear hx hb hw2 hz hu hb2 hw3 hx3 hbx hbr hz3
 have c1 := X3.out.cell_is (j := 1) (v := S p.sch) rfl
 go_upto_region 2 with (first
  | (refine getP rfl (.tmp 1) rfl bx p X3.out rfl ?_)
  | (go_at_call 120; refine (HST.out _).mono ?_; rintro e w4 ⟨rfl, hb⟩; have HB4 := h_ hb; clear hb)
  | (refine alloc_to rfl 30 rfl _ _ (allUrl _) ?_)
  | (refine storeUrl rfl (.tmp 3) (.tmp 13) rfl nilV us H8.out rfl rfl rfl rfl ?_; intro w5 hh hb; have I5 := h_ (OB.of (w0 := w) hh (Nat.le_trans B3.out.size HB4.out.size) (stp (stp B3.out HB4.out) hb)); have K5 := h_ (show K2 bx br w4.heap.size p w5 from ⟨(X3.out.keep HB4.out).keep hb, (R3.out.keep HB4.out).keep hb, by have := HB4.out.size; omega, by have := HB4.out.size; omega⟩); have HBL := h_ (show br < w4.heap.size by have := HB4.out.size; omega); clear hh hb)
  | fail)
 obtain ⟨b, hbb⟩ := ex_ (w4.heap.size)
 rw [<- hbb] at I5 K5 HBL ⊢
 clear c1 hbb hlx hlr
 have c2 := K5.out.x.cell_is (j := 2) (v := S p.rest) rfl
 by_cases hA : ∃ r, p.rest = 47 :: 47 :: r
 ·obtain ⟨r, hr⟩ := hA
  have hp1 : Lib.hasPrefix p.rest [47, 47] = true := (hpSS _).2 ⟨r, hr⟩
  have ht : Lib.trimPrefix p.rest [47, 47] = r := by unfold Lib.trimPrefix; rw [if_pos hp1, hr]; rfl
  have HRA := h_ (show R = askF us r by rw [HR.out, otherU_A hr, HUS.out])
  have HCA := h_ (fun W => (show Calls Tryz.prog 131 #[S p.rest, .string ⟨#[47, 47]⟩] W fun e w' => e = .returned (.tuple #[S r, .bool true]) ∧ w' = W from by have h := HC2.out W; rw [ht, hp1] at h; exact h))
  have HAS := h_ (fun W (i : OB w b 30 (uCells nilV us) W) => ask_any w b us r W i H8.out HUP.out (by have := HRS.out.l; rw [hr] at this; simp at this; omega) (by have := HRS.out.a (spF us.sch) 2; rw [hr] at this; exact this) (HE.out.below i.bel))
  clear hp1 ht hr
  cases hO : askF us r with
  | none =>
   rw [hO] at HRA
   have HAN := h_ (fun W i => (show Calls Tryz.prog 121 #[.pointer (some ⟨b, 0, none⟩), S r] W fun e w' => e = NoN ∧ Below w.heap.size w w' ∧ Tn b W w' from by have h := HAS.out W i; rw [hO] at h; exact h))
   clear hO HAS
   go_wp2_with (first
    | (go_at_call 131; refine (HCA.out _).mono ?_; rintro e w6 ⟨rfl, hw⟩; subst hw)
    | (go_at_call 121; refine (HAN.out _ I5.out).mono ?_; rintro e w7 ⟨rfl, hb, _⟩; have B7 := h_ hb; clear hb)
    | fail)
   rw [HRA.out]
   exact ⟨rfl, rfl, B7.out⟩
  | some u =>
   rw [hO] at HRA
   have HAN := h_ (fun W i => (show Calls Tryz.prog 121 #[.pointer (some ⟨b, 0, none⟩), S r] W fun e w' => e = .returned (.tuple #[]) ∧ (∃ pv, OB w b 30 (uCells pv u) w' ∧ w'.ownsRow W.heap.size 9 1 pv u.path.length (Strs u.path)) ∧ Tn b W w' from by have h := HAS.out W i; rw [hO] at h; exact h))
   have U8 := h_ (ask_six hO)
   clear hO HAS
   go_wp2_with (first
    | (go_at_call 131; refine (HCA.out _).mono ?_; rintro e w6 ⟨rfl, hw⟩; subst hw)
    | (go_at_call 121; refine (HAN.out _ I5.out).mono ?_; rintro e w7 ⟨rfl, ⟨pv, i7, o7⟩, t7⟩; have I7 := h_ i7; have O7 := h_ o7; have K7 := h_ (K5.out.tn t7); clear i7 o7 t7)
    | (refine getU rfl (.tmp 3) rfl w b pv u I7.out U8.out rfl ?_)
    | (refine putU rfl (.tmp 2) (.tmp 23) rfl w br (OB.of K7.out.r HLE.out I7.out.bel) pv u U8.out (own_one O7.out) rfl rfl ?_; intro w8 i8 t8; have I8 := h_ i8; have O8 := h_ (own_base (t8.row O7.out (Nat.lt_of_lt_of_le HBL.out (Nat.le_of_lt I5.out.lt))) I5.out.bel.size); clear i8 t8)
    | fail)
   rw [HRA.out]
   exact u_res (u := u) Tryz.results123 U8.out rfl I8.out ⟨pv, rfl, O8.out, I8.out.bel⟩
 ·by_cases hB : ∃ r, p.rest = 47 :: r
  ·obtain ⟨r, hr⟩ := hB
   have hp0 : Lib.hasPrefix p.rest [47, 47] = false := by rw [Bool.eq_false_iff]; exact fun h => hA ((hpSS _).1 h)
   have ht0 : Lib.trimPrefix p.rest [47, 47] = p.rest := by unfold Lib.trimPrefix; rw [if_neg (by simp [hp0])]
   have hp1 : Lib.hasPrefix p.rest [47] = true := (hpS _).2 ⟨r, hr⟩
   have ht : Lib.trimPrefix p.rest [47] = r := by unfold Lib.trimPrefix; rw [if_pos hp1, hr]; rfl
   have HCA := h_ (fun W => (show Calls Tryz.prog 131 #[S p.rest, .string ⟨#[47, 47]⟩] W fun e w' => e = .returned (.tuple #[S p.rest, .bool false]) ∧ w' = W from by have h := HC2.out W; rw [ht0, hp0] at h; exact h))
   have HCB := h_ (fun W => (show Calls Tryz.prog 131 #[S p.rest, .string ⟨#[47]⟩] W fun e w' => e = .returned (.tuple #[S r, .bool true]) ∧ w' = W from by have h := HC1.out W; rw [ht, hp1] at h; exact h))
   obtain ⟨P, hP⟩ := ex_ (segP us.sch [] r)
   have HSG := h_ (fun W => (show Calls Tryz.prog 149 #[S us.sch, nilV, S r] W (RetRow W 9 (Strs P)) from by rw [hP]; exact sparse_any us.sch r [] nilV W Sl.nil (by have := HRS.out.l; rw [hr] at this; simp at this; omega) (by simp) (by simp)))
   have HRB := h_ (show R = some { us with path := P } by rw [HR.out, otherU_B hr hA, hP, HUS.out])
   clear hp0 ht0 hp1 ht hr hA hP
   have c0 := I5.out.cell_is (uAt nilV us H8.out).sch
   go_upto_region 8 with (first
    | (go_at_call 131; (with_reducible first | (refine (HCA.out _).mono ?_) | (refine (HCB.out _).mono ?_)); rintro e w6 ⟨rfl, hw⟩; subst hw)
    | fail)
   go_wp2_with (first
    | (go_at_call 149; refine (HSG.out _).mono ?_; rintro e w7 ⟨pv, rfl, o7, hb⟩; have O7 := h_ o7; have I7 := h_ (I5.out.below hb); have K7 := h_ (K5.out.below hb); clear o7 hb)
    | (refine put1t rfl 28 (.tmp 35) (.tmp 34) rfl w b 30 (uCells nilV us) I7.out 18 pv rfl rfl (u_lt H8.out (by decide)) sl_info (own_one O7.out) (uCells pv { us with path := P }) ((uPut nilV us H8.out).path _ _) ?_; intro w8 i8 t8; have I8 := h_ i8; have K8 := h_ (K7.out.tn t8); have O8 := h_ (t8.row O7.out I5.out.lt); clear i8 t8)
    | (refine getU rfl (.tmp 3) rfl w b pv { us with path := P } I8.out H8.out rfl ?_)
    | (refine putU rfl (.tmp 2) (.tmp 36) rfl w br (OB.of K8.out.r HLE.out I8.out.bel) pv { us with path := P } H8.out (own_one O8.out) rfl rfl ?_; intro w9 i9 t9; have I9 := h_ i9; have O9 := h_ (own_base (t9.row O8.out (Nat.lt_of_lt_of_le HBL.out (Nat.le_of_lt I5.out.lt))) I5.out.bel.size); clear i9 t9)
    | fail)
   rw [HRB.out]
   exact u_res (u := { us with path := P }) Tryz.results123 H8.out rfl I9.out ⟨pv, rfl, own_st O9.out, I9.out.bel⟩
  ·have hp0 : Lib.hasPrefix p.rest [47, 47] = false := by rw [Bool.eq_false_iff]; exact fun h => hA ((hpSS _).1 h)
   have ht0 : Lib.trimPrefix p.rest [47, 47] = p.rest := by unfold Lib.trimPrefix; rw [if_neg (by simp [hp0])]
   have hp1 : Lib.hasPrefix p.rest [47] = false := by rw [Bool.eq_false_iff]; exact fun h => hB ((hpS _).1 h)
   have ht : Lib.trimPrefix p.rest [47] = p.rest := by unfold Lib.trimPrefix; rw [if_neg (by simp [hp1])]
   have HCA := h_ (fun W => (show Calls Tryz.prog 131 #[S p.rest, .string ⟨#[47, 47]⟩] W fun e w' => e = .returned (.tuple #[S p.rest, .bool false]) ∧ w' = W from by have h := HC2.out W; rw [ht0, hp0] at h; exact h))
   have HCB := h_ (fun W => (show Calls Tryz.prog 131 #[S p.rest, .string ⟨#[47]⟩] W fun e w' => e = .returned (.tuple #[S p.rest, .bool false]) ∧ w' = W from by have h := HC1.out W; rw [ht, hp1] at h; exact h))
   obtain ⟨fl, hfl⟩ := ex_ (pcB 0 p.rest)
   have HRC := h_ (show R = some { us with opq := true, flat := if (p.hasQ = true ∨ p.hasF = true) ∧ fl.getLast? = some 32 then fl.dropLast ++ [37, 50, 48] else fl } by rw [HR.out, otherU_C hB, hfl, HUS.out])
   have hsx := hs32 fl
   have htx := ts32 fl
   rw [<- hfl] at HEN HCS
   have HFL := h_ (show fl.length <= 921600000 by rw [hfl]; have := pcB_len 0 p.rest; have := HRS.out.l; omega)
   generalize Lib.hasSuffix fl [32] = hs at *
   generalize Lib.trimSuffix fl [32] = tf at *
   have HTX := h_ htx
   have HSX := h_ hsx
   clear hp0 ht0 hp1 ht hB hA hfl htx hsx
   go_upto_region 12 with (first
    | (go_at_call 131; (with_reducible first | (refine (HCA.out _).mono ?_) | (refine (HCB.out _).mono ?_)); rintro e w6 ⟨rfl, hw⟩; subst hw)
    | (refine put1t rfl 4 (.tmp 37) (.const (.bool true)) rfl w b 30 (uCells nilV us) I5.out 16 (.bool true) rfl rfl (u_lt H8.out (by decide)) one_info.2.2 rfl (uCells nilV { us with opq := true }) ((uPut nilV us H8.out).opq _) ?_; intro w7 i7 t7; have I7 := h_ i7; have K7 := h_ (K5.out.tn t7); have d2 := K7.out.x.cell_is (j := 2) (v := S p.rest) rfl; clear i7 t7)
    | (go_at_call 20; refine (HEN.out _).mono ?_; rintro e w8 ⟨rfl, hb⟩; have I8 := h_ (I7.out.below hb); have K8 := h_ (K7.out.below hb); clear hb)
    | (refine put1t rfl 9 (.tmp 41) (.tmp 40) rfl w b 30 (uCells nilV { us with opq := true }) I8.out 17 (S fl) rfl rfl (u_lt H8.out (by decide)) one_info.1 rfl (uCells nilV { us with opq := true, flat := fl }) ((uPut nilV { us with opq := true } H8.out).flat _) ?_; intro w9 i9 t9; have I9 := h_ i9; have K9 := h_ (K8.out.tn t9); clear i9 t9)
    | fail)
   clear c2 d2
   have c3 := K9.out.x.cell_is (j := 3) (v := .bool p.hasQ) rfl
   have c5 := K9.out.x.cell_is (j := 5) (v := .bool p.hasF) rfl
   have c17 := I9.out.cell_is (uAt nilV { us with opq := true, flat := fl } H8.out).flat
   have hcs : (p.hasQ = true) ∨ (p.hasQ = false ∧ p.hasF = true) ∨ (p.hasQ = false ∧ p.hasF = false) := by cases p.hasQ <;> cases p.hasF <;> simp
   rcases hcs with hq | ⟨hq, hf⟩ | ⟨hq, hf⟩
   ·rw [hq] at c3
    cases hs with
    | true =>
     have HRD := h_ (show R = some { us with opq := true, flat := fl.dropLast ++ [37, 50, 48] } by rw [HRC.out, if_pos ⟨by simp [hq], HSX.out.1 rfl⟩])
     have htf := HTX.out rfl
     have HTF := h_ (show S tf = S fl.dropLast by rw [htf])
     have HAD := h_ (show bs tf ++ (⟨#[37, 50, 48]⟩ : ByteArray) = bs (fl.dropLast ++ [37, 50, 48]) by rw [htf, <- bs_app]; rfl)
     obtain ⟨tg, htg⟩ := ex_ (bs (fl.dropLast ++ [37, 50, 48]))
     rw [<- htg] at HAD
     have HTG := h_ htg
     obtain ⟨th, hth⟩ := ex_ (bs tf)
     rw [<- hth] at HAD
     have HCT := h_ (fun W => (show Calls Tryz.prog 154 #[S fl, .string ⟨#[32]⟩] W fun e w' => e = .returned (.tuple #[.string th, .bool true]) ∧ w' = W from by rw [hth]; exact HCS.out W))
     clear htg HCS HTF
     have hths : th.size <= 921600000 := by rw [hth, bs_size, htf, List.length_dropLast]; have := HFL.out; omega
     clear hth htf
     have had := HAD.out
     go_upto_region 15 with (first
      | (go_at_call 154; refine (HCT.out _).mono ?_; rintro e w10 ⟨rfl, hw⟩; subst hw)
      | fail)
     go_upto_region 16 with (first
      | (refine put1t rfl 9 (.tmp 57) (.tmp 56) rfl w b 30 (uCells nilV { us with opq := true, flat := fl }) I9.out 17 (.string tg) rfl rfl (u_lt H8.out (by decide)) one_info.1 rfl (uCells nilV { us with opq := true, flat := fl.dropLast ++ [37, 50, 48] }) (by rw [HTG.out]; exact (uPut nilV { us with opq := true, flat := fl } H8.out).flat _) ?_; intro w11 i11 t11; have I11 := h_ i11; have K11 := h_ (K9.out.tn t11); clear i11 t11)
      | fail)
     go_wp2_with (first
      | (refine getU rfl (.tmp 3) rfl w b nilV { us with opq := true, flat := fl.dropLast ++ [37, 50, 48] } I11.out H8.out rfl ?_)
      | (refine putU rfl (.tmp 2) (.tmp 58) rfl w br (OB.of K11.out.r HLE.out I11.out.bel) nilV { us with opq := true, flat := fl.dropLast ++ [37, 50, 48] } H8.out rfl rfl rfl ?_; intro wZ iZ _; have IZ := h_ iZ; clear iZ)
      | fail)
     rw [HRD.out]
     exact u_res (u := { us with opq := true, flat := fl.dropLast ++ [37, 50, 48] }) Tryz.results123 H8.out rfl IZ.out ⟨nilV, rfl, own_nil' HUP.out, IZ.out.bel⟩
    | false =>
     have HRD := h_ (show R = some { us with opq := true, flat := fl } by rw [HRC.out, if_neg (by rintro ⟨_, h⟩; have := HSX.out.2 h; cases this)])
     go_wp2_with (first
      | (go_at_call 154; refine (HCS.out _).mono ?_; rintro e w10 ⟨rfl, hw⟩; subst hw)
      | (refine getU rfl (.tmp 3) rfl w b nilV { us with opq := true, flat := fl } I9.out H8.out rfl ?_)
      | (refine putU rfl (.tmp 2) (.tmp 58) rfl w br (OB.of K9.out.r HLE.out I9.out.bel) nilV { us with opq := true, flat := fl } H8.out rfl rfl rfl ?_; intro wZ iZ _; have IZ := h_ iZ; clear iZ)
      | fail)
     rw [HRD.out]
     exact u_res (u := { us with opq := true, flat := fl }) Tryz.results123 H8.out rfl IZ.out ⟨nilV, rfl, own_nil' HUP.out, IZ.out.bel⟩
   ·rw [hq] at c3
    rw [hf] at c5
    cases hs with
    | true =>
     have HRD := h_ (show R = some { us with opq := true, flat := fl.dropLast ++ [37, 50, 48] } by rw [HRC.out, if_pos ⟨by simp [hf], HSX.out.1 rfl⟩])
     have htf := HTX.out rfl
     have HTF := h_ (show S tf = S fl.dropLast by rw [htf])
     have HAD := h_ (show bs tf ++ (⟨#[37, 50, 48]⟩ : ByteArray) = bs (fl.dropLast ++ [37, 50, 48]) by rw [htf, <- bs_app]; rfl)
     obtain ⟨tg, htg⟩ := ex_ (bs (fl.dropLast ++ [37, 50, 48]))
     rw [<- htg] at HAD
     have HTG := h_ htg
     obtain ⟨th, hth⟩ := ex_ (bs tf)
     rw [<- hth] at HAD
     have HCT := h_ (fun W => (show Calls Tryz.prog 154 #[S fl, .string ⟨#[32]⟩] W fun e w' => e = .returned (.tuple #[.string th, .bool true]) ∧ w' = W from by rw [hth]; exact HCS.out W))
     clear htg HCS HTF
     have hths : th.size <= 921600000 := by rw [hth, bs_size, htf, List.length_dropLast]; have := HFL.out; omega
     clear hth htf
     have had := HAD.out
     go_upto_region 15 with (first
      | (go_at_call 154; refine (HCT.out _).mono ?_; rintro e w10 ⟨rfl, hw⟩; subst hw)
      | fail)
     go_upto_region 16 with (first
      | (refine put1t rfl 9 (.tmp 57) (.tmp 56) rfl w b 30 (uCells nilV { us with opq := true, flat := fl }) I9.out 17 (.string tg) rfl rfl (u_lt H8.out (by decide)) one_info.1 rfl (uCells nilV { us with opq := true, flat := fl.dropLast ++ [37, 50, 48] }) (by rw [HTG.out]; exact (uPut nilV { us with opq := true, flat := fl } H8.out).flat _) ?_; intro w11 i11 t11; have I11 := h_ i11; have K11 := h_ (K9.out.tn t11); clear i11 t11)
      | fail)
     go_wp2_with (first
      | (refine getU rfl (.tmp 3) rfl w b nilV { us with opq := true, flat := fl.dropLast ++ [37, 50, 48] } I11.out H8.out rfl ?_)
      | (refine putU rfl (.tmp 2) (.tmp 58) rfl w br (OB.of K11.out.r HLE.out I11.out.bel) nilV { us with opq := true, flat := fl.dropLast ++ [37, 50, 48] } H8.out rfl rfl rfl ?_; intro wZ iZ _; have IZ := h_ iZ; clear iZ)
      | fail)
     rw [HRD.out]
     exact u_res (u := { us with opq := true, flat := fl.dropLast ++ [37, 50, 48] }) Tryz.results123 H8.out rfl IZ.out ⟨nilV, rfl, own_nil' HUP.out, IZ.out.bel⟩
    | false =>
     have HRD := h_ (show R = some { us with opq := true, flat := fl } by rw [HRC.out, if_neg (by rintro ⟨_, h⟩; have := HSX.out.2 h; cases this)])
     go_wp2_with (first
      | (go_at_call 154; refine (HCS.out _).mono ?_; rintro e w10 ⟨rfl, hw⟩; subst hw)
      | (refine getU rfl (.tmp 3) rfl w b nilV { us with opq := true, flat := fl } I9.out H8.out rfl ?_)
      | (refine putU rfl (.tmp 2) (.tmp 58) rfl w br (OB.of K9.out.r HLE.out I9.out.bel) nilV { us with opq := true, flat := fl } H8.out rfl rfl rfl ?_; intro wZ iZ _; have IZ := h_ iZ; clear iZ)
      | fail)
     rw [HRD.out]
     exact u_res (u := { us with opq := true, flat := fl }) Tryz.results123 H8.out rfl IZ.out ⟨nilV, rfl, own_nil' HUP.out, IZ.out.bel⟩
   ·rw [hq] at c3
    rw [hf] at c5
    have HRD := h_ (show R = some { us with opq := true, flat := fl } by rw [HRC.out, if_neg (by simp [hq, hf])])
    go_wp2_with (first
     | (refine getU rfl (.tmp 3) rfl w b nilV { us with opq := true, flat := fl } I9.out H8.out rfl ?_)
     | (refine putU rfl (.tmp 2) (.tmp 58) rfl w br (OB.of K9.out.r HLE.out I9.out.bel) nilV { us with opq := true, flat := fl } H8.out rfl rfl rfl ?_; intro wZ iZ _; have IZ := h_ iZ; clear iZ)
     | fail)
    rw [HRD.out]
    exact u_res (u := { us with opq := true, flat := fl }) Tryz.results123 H8.out rfl IZ.out ⟨nilV, rfl, own_nil' HUP.out, IZ.out.bel⟩

structure K3 (bb bx br b : Nat) (bv : Value) (u : Url) (p : Prt) (W : World) : Prop where
 cb : CB W bb 30 (uCells bv u)
 cx : CB W bx 35 (pCells p)
 cr : CB W br 30 (uCells nilV U0)
 nb : bb ≠ b
 nx : bx ≠ b
 nr : br ≠ b
section
variable {bb bx br b : Nat} {bv : Value} {u : Url} {p : Prt} {W W' : World}
theorem K3.below (k : K3 bb bx br b bv u p W) (h : Below W.heap.size W W') : K3 bb bx br b bv u p W' := ⟨k.cb.keep h, k.cx.keep h, k.cr.keep h, k.nb, k.nx, k.nr⟩
theorem K3.tn (k : K3 bb bx br b bv u p W) (h : Tn b W W') : K3 bb bx br b bv u p W' := ⟨h.cb k.cb k.nb, h.cb k.cx k.nx, h.cb k.cr k.nr, k.nb, k.nx, k.nr⟩
end
theorem three (w : World) (bv : Value) (u : Url) (p : Prt) : ∃ w3, ((w.alloc (.cells (uCells bv u) 30)).alloc (.cells (pCells p) 35)).alloc (.cells (uCells nilV U0) 30) = w3 ∧ w3.heap.size = w.heap.size + 3 ∧ Below w.heap.size w w3 ∧ CB w3 w.heap.size 30 (uCells bv u) ∧ CB w3 (w.heap.size + 1) 35 (pCells p) ∧ CB w3 (w.heap.size + 2) 30 (uCells nilV U0) := by
 have hx := CB.new w 30 (uCells bv u)
 have hb := (Below.refl w.heap.size w).alloc (Nat.le_refl _) (.cells (uCells bv u) 30)
 obtain ⟨w1, hw1⟩ := ex_ (w.alloc (.cells (uCells bv u) 30))
 have hz1 : w1.heap.size = w.heap.size + 1 := by rw [hw1]; simp
 rw [<- hw1] at hx hb ⊢
 have hy := CB.new w1 35 (pCells p)
 have hb2 := (Below.refl w1.heap.size w1).alloc (Nat.le_refl _) (.cells (pCells p) 35)
 obtain ⟨w2, hw2⟩ := ex_ (w1.alloc (.cells (pCells p) 35))
 have hz2 : w2.heap.size = w.heap.size + 2 := by rw [hw2]; simp [hz1]
 rw [<- hw2] at hy hb2 ⊢
 have hu := CB.new w2 30 (uCells nilV U0)
 have hb3 := (Below.refl w2.heap.size w2).alloc (Nat.le_refl _) (.cells (uCells nilV U0) 30)
 obtain ⟨w3, hw3⟩ := ex_ (w2.alloc (.cells (uCells nilV U0) 30))
 have hz3 : w3.heap.size = w.heap.size + 3 := by rw [hw3]; simp [hz2]
 rw [<- hw3] at hu hb3 ⊢
 rw [hz1] at hy
 rw [hz2] at hu
 exact ⟨w3, rfl, hz3, stp (stp hb hb2) hb3, (hx.keep hb2).keep hb3, hy.keep hb3, hu⟩
theorem sl_cell {B : Nat} {w : World} {v : Value} {xs : List Value} (h : Sl B w v xs) : v.oneCell' = true := by
 obtain ⟨c, _, _, ⟨_, a, rfl⟩ | ⟨b, o, _, rfl, _⟩⟩ := h <;> rfl
theorem flat_any (bu : Url) (bv : Value) (p : Prt) (w : World) (h8 : bu.host.six.length = 8) (hbv : Sl w.heap.size w bv (bu.path.map S)) (hbl : bu.path.length <= 307200000) (hf : p.f.length <= 307200000) : Calls Tryz.prog 124 #[.agg (uCells bv bu), .agg (pCells p)] w (JoinP w (flatU bu p)) := by
 have HEN := h_ (fun W => pencode_any 1 p.f W (by omega))
 obtain ⟨R, hR⟩ := ex_ (flatU bu p)
 rw [<- hR]
 unfold flatU at hR
 have H8 := h_ h8
 have HBV := h_ hbv
 have HBL := h_ hbl
 have HR := h_ hR
 obtain ⟨ff, hff⟩ := ex_ (pcB 1 p.f)
 rw [<- hff] at HEN HR
 have hre : (bs p.rest).toList = [] ↔ p.rest = [] := by rw [toList_bs]
 have HRE := h_ hre
 have hk : (p.hasF = true ∧ p.hasQ = false ∧ p.rest = []) ∨ (p.hasF = false) ∨ (p.hasF = true ∧ p.hasQ = true) ∨ (p.hasF = true ∧ p.hasQ = false ∧ p.rest ≠ []) := by
  cases p.hasF <;> cases p.hasQ <;> by_cases h : p.rest = [] <;> simp [h]
 clear h8 hbv hbl hf hR hre hff
 go_enter Tryz.func124, Tryz.ntmps124
 go_upto_region 1 with (first
  | (refine alloc_to rfl 30 rfl _ _ (allUrl _) ?_)
  | fail)
 obtain ⟨w3, hw3, hz3, hb, k1, k2, k3⟩ := three w bv bu p
 try rw [show ((w.alloc (.cells (uCells bv bu) 30)).alloc (.cells (pCells p) 35)).heap.size = w.heap.size + 2 by simp]
 rw [hw3]
 clear hw3
 obtain ⟨br, hbr⟩ := ex_ (w.heap.size + 2)
 obtain ⟨bx, hbx⟩ := ex_ (w.heap.size + 1)
 obtain ⟨bb, hbb⟩ := ex_ (w.heap.size)
 rw [<- hbr] at k3
 rw [<- hbx] at k2
 rw [<- hbb] at k1
 rw [<- hbr, <- hbx, <- hbb]
 have HLE := h_ (show w.heap.size <= br by omega)
 have HBB := h_ hbb
 have B3 := h_ hb
 have V3 := h_ k1
 have X3 := h_ k2
 have R3 := h_ k3
 have HD := h_ (show bb < bx ∧ bx < br by omega)
 clear hz3 hb k1 k2 k3 hbr hbx hbb
 have d2 := X3.out.cell_is (j := 2) (v := S p.rest) rfl
 have d3 := X3.out.cell_is (j := 3) (v := .bool p.hasQ) rfl
 have d5 := X3.out.cell_is (j := 5) (v := .bool p.hasF) rfl
 rcases hk with ⟨k1, k2, k3⟩ | k1 | ⟨k1, k2⟩ | ⟨k1, k2, k3⟩
 ·have he1 : (bs p.rest).toList.isEmpty = true := by rw [HRE.out.2 k3]; rfl
  rw [k1] at d5
  rw [k2] at d3
  have HRA := h_ (show R = some { bu with hasF := true, f := ff } by rw [HR.out, if_neg (by simp [k1, k2, k3])])
  clear k1 k2 k3
  go_upto_region 4 with (first
   | (refine getU rfl (.tmp 2) rfl w bb bv bu (OB.of V3.out (Nat.le_of_eq HBB.out.symm) B3.out) H8.out rfl ?_)
   | (refine alloc_to rfl 30 rfl _ _ (allUrl _) ?_)
   | (refine storeUrl rfl (.tmp 5) (.tmp 20) rfl bv bu H8.out (sl_cell HBV.out) rfl rfl rfl ?_; intro w5 hh hb; have I5 := h_ (OB.of (w0 := w) hh B3.out.size (stp B3.out hb)); have K5 := h_ (show K3 bb bx br w3.heap.size bv bu p w5 from ⟨V3.out.keep hb, X3.out.keep hb, R3.out.keep hb, Nat.ne_of_lt V3.out.lt, Nat.ne_of_lt X3.out.lt, Nat.ne_of_lt R3.out.lt⟩); clear hh hb)
   | fail)
  obtain ⟨b, hb⟩ := ex_ (w3.heap.size)
  have HBL3 := h_ (show br < b by rw [hb]; exact R3.out.lt)
  rw [<- hb] at I5 K5 ⊢
  clear hb d2 d3 d5
  have c8 := K5.out.cb.cell_is (uAt bv bu H8.out).path
  have d6 := K5.out.cx.cell_is (j := 6) (v := S p.f) rfl
  go_upto_region 5 with (first
   | (go_at_call 60; refine (clone_any bu.path bv _ ((HBV.out.below I5.out.bel).more I5.out.bel.size) (by have := HBL.out; omega)).mono ?_; rintro e w6 ⟨pv, rfl, o6, hb⟩; have O6 := h_ (own_st o6); have I6 := h_ (I5.out.below hb); have K6 := h_ (K5.out.below hb); have HB6 := h_ (show b < w5.heap.size from I5.out.lt); clear o6 hb)
   | (refine put1t rfl 28 (.tmp 24) (.tmp 23) rfl w b 30 (uCells bv bu) I6.out 18 pv rfl rfl (u_lt H8.out (by decide)) sl_info (own_one O6.out) (uCells pv bu) ((uPut bv bu H8.out).path _ bu.path) ?_; intro w7 i7 t7; have I7 := h_ i7; have K7 := h_ (K6.out.tn t7); have O7 := h_ (t7.row O6.out HB6.out); clear i7 t7)
   | fail)
  clear c8 d6
  have d6 := K7.out.cx.cell_is (j := 6) (v := S p.f) rfl
  go_wp2_with (first
   | (refine put1t rfl 4 (.tmp 25) (.const (.bool true)) rfl w b 30 (uCells pv bu) I7.out 21 (.bool true) rfl rfl (u_lt H8.out (by decide)) one_info.2.2 rfl (uCells pv { bu with hasF := true }) ((uPut pv bu H8.out).hasF _) ?_; intro w8 i8 t8; have I8 := h_ i8; have K8 := h_ (K7.out.tn t8); have O8 := h_ (t8.row O7.out HB6.out); have e6 := K8.out.cx.cell_is (j := 6) (v := S p.f) rfl; clear i8 t8)
   | (go_at_call 20; refine (HEN.out _).mono ?_; rintro e w9 ⟨rfl, hb⟩; have I9 := h_ (I8.out.below hb); have K9 := h_ (K8.out.below hb); have O9 := h_ (own_below O8.out hb); clear hb)
   | (refine put1t rfl 9 (.tmp 29) (.tmp 28) rfl w b 30 (uCells pv { bu with hasF := true }) I9.out 22 (S ff) rfl rfl (u_lt H8.out (by decide)) one_info.1 rfl (uCells pv { bu with hasF := true, f := ff }) ((uPut pv { bu with hasF := true } H8.out).f _) ?_; intro w10 i10 t10; have I10 := h_ i10; have K10 := h_ (K9.out.tn t10); have O10 := h_ (t10.row O9.out HB6.out); clear i10 t10)
   | (refine getU rfl (.tmp 5) rfl w b pv { bu with hasF := true, f := ff } I10.out H8.out rfl ?_)
   | (refine putU rfl (.tmp 4) (.tmp 30) rfl w br (OB.of K10.out.cr HLE.out I10.out.bel) pv { bu with hasF := true, f := ff } H8.out (own_one O10.out) rfl rfl ?_; intro w11 i11 t11; have I11 := h_ i11; have O11 := h_ (own_base (t11.row O10.out (Nat.lt_trans HBL3.out HB6.out)) I5.out.bel.size); clear i11 t11)
   | fail)
  rw [HRA.out]
  exact u_res (u := { bu with hasF := true, f := ff }) Tryz.results124 H8.out rfl I11.out ⟨pv, rfl, O11.out, I11.out.bel⟩
 ·rw [k1] at d5
  have HRA := h_ (show R = none by rw [HR.out, if_pos (by simp [k1])])
  go_wp2_with fail
  rw [HRA.out]
  exact ⟨rfl, rfl, B3.out⟩
 ·rw [k1] at d5
  rw [k2] at d3
  have HRA := h_ (show R = none by rw [HR.out, if_pos (by simp [k2])])
  go_wp2_with fail
  rw [HRA.out]
  exact ⟨rfl, rfl, B3.out⟩
 ·rw [k1] at d5
  rw [k2] at d3
  have he1 : (bs p.rest).toList.isEmpty = false := by
   have := fun h => k3 (HRE.out.1 h)
   simpa using this
  have HRA := h_ (show R = none by rw [HR.out, if_pos (by simp [k3])])
  clear k1 k2 k3
  go_wp2_with fail
  rw [HRA.out]
  exact ⟨rfl, rfl, B3.out⟩

structure Bs (l : List Bytes) : Prop where
 le : l.length <= 307200000
 all : ∀ x ∈ l, List.length x <= 1024000000
theorem takeP_path (u b : Url) : (takeP u b).path = b.path := by unfold takeP; split <;> rfl
theorem takeP_host (u b : Url) : (takeP u b).host = u.host := by unfold takeP; split <;> rfl
theorem relative_any (bu : Url) (bv : Value) (p : Prt) (w : World) (h8 : bu.host.six.length = 8) (hbv : Sl w.heap.size w bv (bu.path.map S)) (hbs : Bs bu.path) (hr : Rs p.rest) (hq : p.q.length <= 307200000) (hf : p.f.length <= 307200000) (hE : Env w) : Calls Tryz.prog 125 #[.agg (uCells bv bu), .agg (pCells p)] w (JoinP w (relU bu p)) := by
 have HST := h_ (fun W => start_any bu.sch p W (by omega) (by omega))
 have HSP := h_ (fun W => special_any bu.sch W)
 have hsl := fun W => slashes_any bu.sch p.rest W (by have := hr.l; omega)
 have HUN := h_ (fun W => unslashed_any bu.sch p.rest W (by have := hr.l; omega))
 obtain ⟨us, hus⟩ := ex_ (startF bu.sch p)
 have h8s : us.host.six.length = 8 := by rw [hus]; rfl
 have hsc : us.sch = bu.sch := by rw [hus]; rfl
 have hup : us.path = [] := by rw [hus]; rfl
 rw [<- hus] at HST
 obtain ⟨R, hR⟩ := ex_ (relU bu p)
 rw [<- hR]
 unfold relU at hR
 rw [<- hus] at hR
 dsimp only at hR
 have hle := slN_le (spF bu.sch) p.rest
 have HE := h_ hE
 have HRS := h_ hr
 have H8 := h_ h8
 have HBV := h_ hbv
 have HBS := h_ hbs
 have HS8 := h_ h8s
 have HSC := h_ hsc
 have HUP := h_ hup
 have HUS := h_ hus
 generalize slN (spF bu.sch) p.rest = n at *
 generalize spF bu.sch = sp at *
 have HSL := h_ hsl
 have HR := h_ hR
 obtain ⟨t, ht⟩ := ex_ (bs p.rest)
 have htz : t.size = p.rest.length := by rw [ht, bs_size]
 have HT := h_ ht
 have hex1 : t.extract 1 t.size = bs (p.rest.drop 1) := by rw [ht]; exact ext_all p.rest 1 _ (bs_size p.rest)
 have hex2 : t.extract 2 t.size = bs (p.rest.drop 2) := by rw [ht]; exact ext_all p.rest 2 _ (bs_size p.rest)
 obtain ⟨N, hN⟩ := ex_ (t.size)
 have htN : t.size = N := hN.symm
 rw [htN] at hex1 hex2
 have hnN : n <= N := by omega
 have HEX1 := h_ hex1
 have HEX2 := h_ hex2
 have HNN := h_ hnN
 have HTZ := h_ htz
 clear h8 hbv hbs hr hq hf hE hsl h8s hsc hup hR hle hus ht hex1 hex2 hN hnN htz
 go_enter Tryz.func125, Tryz.ntmps125
 go_upto_region 1 with (first
  | (refine alloc_to rfl 30 rfl _ _ (allUrl _) ?_)
  | fail)
 obtain ⟨w3, hw3, hz3, hb, k1, k2, k3⟩ := three w bv bu p
 try rw [show ((w.alloc (.cells (uCells bv bu) 30)).alloc (.cells (pCells p) 35)).heap.size = w.heap.size + 2 by simp]
 rw [hw3]
 clear hw3
 obtain ⟨br, hbr⟩ := ex_ (w.heap.size + 2)
 obtain ⟨bx, hbx⟩ := ex_ (w.heap.size + 1)
 obtain ⟨bb, hbb⟩ := ex_ (w.heap.size)
 rw [<- hbr] at k3
 rw [<- hbx] at k2
 rw [<- hbb] at k1
 rw [<- hbr, <- hbx, <- hbb]
 have HLE := h_ (show w.heap.size <= br by omega)
 have HBB := h_ hbb
 have B3 := h_ hb
 have V3 := h_ k1
 have X3 := h_ k2
 have R3 := h_ k3
 have HD := h_ (show bb < bx ∧ bx < br by omega)
 clear hz3 hb k1 k2 k3 hbr hbx hbb
 have c0 := V3.out.cell_is (uAt bv bu H8.out).sch
 go_upto_region 2 with (first
  | (refine getP rfl (.tmp 3) rfl bx p X3.out rfl ?_)
  | (go_at_call 120; refine (HST.out _).mono ?_; rintro e w4 ⟨rfl, hb⟩; have HB4 := h_ hb; clear hb)
  | (refine alloc_to rfl 30 rfl _ _ (allUrl _) ?_)
  | (refine storeUrl rfl (.tmp 5) (.tmp 10) rfl nilV us HS8.out rfl rfl rfl rfl ?_; intro w5 hh hb; have I5 := h_ (OB.of (w0 := w) hh (Nat.le_trans B3.out.size HB4.out.size) (stp (stp B3.out HB4.out) hb)); have K5 := h_ (show K3 bb bx br w4.heap.size bv bu p w5 from ⟨(V3.out.keep HB4.out).keep hb, (X3.out.keep HB4.out).keep hb, (R3.out.keep HB4.out).keep hb, Nat.ne_of_lt (Nat.lt_of_lt_of_le V3.out.lt HB4.out.size), Nat.ne_of_lt (Nat.lt_of_lt_of_le X3.out.lt HB4.out.size), Nat.ne_of_lt (Nat.lt_of_lt_of_le R3.out.lt HB4.out.size)⟩); have HBB3 := h_ (show br < w4.heap.size + 1 from Nat.lt_succ_of_lt (Nat.lt_of_lt_of_le R3.out.lt HB4.out.size)); have HLB := h_ (show w.heap.size <= w4.heap.size + 1 from Nat.le_succ_of_le (Nat.le_trans B3.out.size HB4.out.size)); clear hh hb)
  | fail)
 obtain ⟨b, hbb⟩ := ex_ (w4.heap.size)
 rw [<- hbb] at I5 K5 HBB3 HLB ⊢
 clear c0 hbb
 have c0 := I5.out.cell_is (uAt nilV us HS8.out).sch
 rw [HSC.out] at c0
 have d2 := K5.out.cx.cell_is (j := 2) (v := .string (bs p.rest)) rfl
 rw [<- HT.out] at d2
 rw [<- HT.out] at HSL HUN
 have HAS := h_ (fun (k : Nat) W (i : OB w b 30 (uCells nilV us) W) => ask_any w b us (p.rest.drop k) W i HS8.out HUP.out (by have := HRS.out.l; rw [List.length_drop]; omega) (HRS.out.a _ k) (HE.out.below i.bel))
 have HS8T := h_ (show (takeA us bu).host.six.length = 8 from H8.out)
 have HS8P := h_ (show (takeP (takeA us bu) bu).host.six.length = 8 by rw [takeP_host]; exact H8.out)
 have SC := h_ (fun (W : World) (v : Value) (x : Url) (i : OB w b 30 (uCells v x) W) (h : x.host.six.length = 8) (hs : x.sch = bu.sch) (k : K3 bb bx br b bv bu p W) => (show W.cell? ⟨b, 0, none⟩ = some (S bu.sch) ∧ W.cell? ⟨bx, 2, none⟩ = some (.string t) ∧ W.cell? ⟨bb, 18, none⟩ = some bv from ⟨by rw [i.cell_is (uAt v x h).sch, hs], by rw [HT.out]; exact k.cx.cell_is rfl, k.cb.cell_is (uAt bv bu H8.out).path⟩))
 have hcs : (2 <= n ∧ sp = true) ∨ (2 <= n ∧ sp = false) ∨ n = 1 ∨ n = 0 := by cases sp <;> simp <;> omega
 rcases hcs with ⟨hn, rfl⟩ | ⟨hn, rfl⟩ | rfl | rfl
 ·have HRA0 := h_ (show R = askF us (p.rest.drop n) by rw [HR.out, if_pos ⟨hn, rfl⟩])
  have HASn := h_ (fun W i => HAS.out n W i)
  have hni : (2 : Int) <= n := by omega
  clear hn
  go_upto_region 6 with (first
   | (go_at_call 146; refine (HSL.out _).mono ?_; rintro e w6 ⟨rfl, hw⟩; subst hw)
   | (go_at_call 22; refine (HSP.out _).mono ?_; rintro e w6 ⟨rfl, hw⟩; subst hw)
   | fail)
  cases hO : askF us (p.rest.drop n) with
  | none =>
   have HRA := h_ (show R = none by rw [HRA0.out, hO])
   have HAN := h_ (fun W i => (show Calls Tryz.prog 121 #[.pointer (some ⟨b, 0, none⟩), S ((p.rest.drop n))] W fun e w' => e = NoN ∧ Below w.heap.size w w' ∧ Tn b W w' from by have h := HASn.out W i; rw [hO] at h; exact h))
   clear hO
   go_wp2_with (first
    | (go_at_call 122; refine (HUN.out _).mono ?_; rintro e w6 ⟨rfl, hw⟩; subst hw)
    | (go_at_call 121; refine (HAN.out _ I5.out).mono ?_; rintro e w7 ⟨rfl, hb, _⟩; have B7 := h_ hb; clear hb)
    | fail)
   rw [HRA.out]
   exact ⟨rfl, rfl, B7.out⟩
  | some u =>
   have HRA := h_ (show R = some u by rw [HRA0.out, hO])
   have HAN := h_ (fun W i => (show Calls Tryz.prog 121 #[.pointer (some ⟨b, 0, none⟩), S ((p.rest.drop n))] W fun e w' => e = .returned (.tuple #[]) ∧ (∃ pv, OB w b 30 (uCells pv u) w' ∧ w'.ownsRow W.heap.size 9 1 pv u.path.length (Strs u.path)) ∧ Tn b W w' from by have h := HASn.out W i; rw [hO] at h; exact h))
   have U8 := h_ (ask_six hO)
   clear hO
   go_upto_region 15 with (first
    | (go_at_call 122; refine (HUN.out _).mono ?_; rintro e w6 ⟨rfl, hw⟩; subst hw)
    | (go_at_call 121; refine (HAN.out _ I5.out).mono ?_; rintro e w7 ⟨rfl, ⟨pv, i7, o7⟩, t7⟩; have I7 := h_ i7; have O7 := h_ (own_base o7 (show b + 1 <= _ from I5.out.lt)); have K7 := h_ (K5.out.tn t7); clear i7 o7 t7)
    | fail)
   go_wp2_with (first
    | (refine getU rfl (.tmp 5) rfl w b pv u I7.out U8.out rfl ?_)
    | (refine putU rfl (.tmp 4) (.tmp 70) rfl w br (OB.of K7.out.cr HLE.out I7.out.bel) pv u U8.out (own_one O7.out) rfl rfl ?_; intro wZ iZ tZ; have IZ := h_ iZ; have OZ := h_ (own_base (tZ.row O7.out HBB3.out) HLB.out); clear iZ tZ)
    | fail)
   rw [HRA.out]
   exact u_res (u := u) Tryz.results125 U8.out rfl IZ.out ⟨pv, rfl, OZ.out, IZ.out.bel⟩
 ·have HRA0 := h_ (show R = askF us (p.rest.drop 2) by rw [HR.out, if_neg (by simp), if_pos hn])
  have HAS2 := h_ (fun W i => HAS.out 2 W i)
  have hni : (2 : Int) <= n := by omega
  have hN2 : 2 <= N := by have := HNN.out; omega
  have hN2i : (2 : Int) <= N := by omega
  have hex2 := HEX2.out
  clear hn
  go_upto_region 7 with (first
   | (go_at_call 146; refine (HSL.out _).mono ?_; rintro e w6 ⟨rfl, hw⟩; subst hw)
   | (go_at_call 22; refine (HSP.out _).mono ?_; rintro e w6 ⟨rfl, hw⟩; subst hw)
   | fail)
  cases hO : askF us (p.rest.drop 2) with
  | none =>
   have HRA := h_ (show R = none by rw [HRA0.out, hO])
   have HAN := h_ (fun W i => (show Calls Tryz.prog 121 #[.pointer (some ⟨b, 0, none⟩), S ((p.rest.drop 2))] W fun e w' => e = NoN ∧ Below w.heap.size w w' ∧ Tn b W w' from by have h := HAS2.out W i; rw [hO] at h; exact h))
   clear hO
   go_wp2_with (first
    | (go_at_call 121; refine (HAN.out _ I5.out).mono ?_; rintro e w7 ⟨rfl, hb, _⟩; have B7 := h_ hb; clear hb)
    | fail)
   rw [HRA.out]
   exact ⟨rfl, rfl, B7.out⟩
  | some u =>
   have HRA := h_ (show R = some u by rw [HRA0.out, hO])
   have HAN := h_ (fun W i => (show Calls Tryz.prog 121 #[.pointer (some ⟨b, 0, none⟩), S ((p.rest.drop 2))] W fun e w' => e = .returned (.tuple #[]) ∧ (∃ pv, OB w b 30 (uCells pv u) w' ∧ w'.ownsRow W.heap.size 9 1 pv u.path.length (Strs u.path)) ∧ Tn b W w' from by have h := HAS2.out W i; rw [hO] at h; exact h))
   have U8 := h_ (ask_six hO)
   clear hO
   go_upto_region 15 with (first
    | (go_at_call 121; refine (HAN.out _ I5.out).mono ?_; rintro e w7 ⟨rfl, ⟨pv, i7, o7⟩, t7⟩; have I7 := h_ i7; have O7 := h_ (own_base o7 (show b + 1 <= _ from I5.out.lt)); have K7 := h_ (K5.out.tn t7); clear i7 o7 t7)
    | fail)
   go_wp2_with (first
    | (refine getU rfl (.tmp 5) rfl w b pv u I7.out U8.out rfl ?_)
    | (refine putU rfl (.tmp 4) (.tmp 70) rfl w br (OB.of K7.out.cr HLE.out I7.out.bel) pv u U8.out (own_one O7.out) rfl rfl ?_; intro wZ iZ tZ; have IZ := h_ iZ; have OZ := h_ (own_base (tZ.row O7.out HBB3.out) HLB.out); clear iZ tZ)
    | fail)
   rw [HRA.out]
   exact u_res (u := u) Tryz.results125 U8.out rfl IZ.out ⟨pv, rfl, OZ.out, IZ.out.bel⟩
 ·obtain ⟨PP, hPP⟩ := ex_ (segP bu.sch [] (p.rest.drop 1))
  have HRA := h_ (show R = some { takeA us bu with path := PP } by rw [HR.out, if_neg (by omega), if_neg (by omega), if_pos rfl, hPP])
  obtain ⟨s1, hs1⟩ := ex_ (bs (p.rest.drop 1))
  have HSG := h_ (fun W => (show Calls Tryz.prog 149 #[S bu.sch, nilV, .string s1] W (RetRow W 9 (Strs PP)) from by rw [hPP, hs1]; exact sparse_any bu.sch (p.rest.drop 1) [] nilV W Sl.nil (by have := HRS.out.l; rw [List.length_drop]; omega) (by simp) (by simp)))
  have hN1 : 1 <= N := HNN.out
  have hN1i : (1 : Int) <= N := by omega
  have hex1 := HEX1.out
  rw [<- hs1] at hex1
  clear hPP hs1
  go_upto_region 11 with (first
   | (go_at_call 146; refine (HSL.out _).mono ?_; rintro e w6 ⟨rfl, hw⟩; subst hw)
    | (refine getU rfl (.tmp 2) rfl w bb bv bu (OB.of K5.out.cb (Nat.le_of_eq HBB.out.symm) I5.out.bel) H8.out rfl ?_)
    | (go_at_call 155; refine (takeAuth_any w b nilV bv us bu _ I5.out HS8.out H8.out).mono ?_; rintro e w7 ⟨rfl, i7, t7⟩; have I7 := h_ i7; have K7 := h_ (K5.out.tn t7); have e0 := (SC.out _ _ _ I7.out HS8T.out HSC.out K7.out).2.1; clear i7 t7)
   | fail)
  clear c0 d2
  have I8 := h_ (I7.out.below (bz_drew (bz_refl _)))
  have K8 := h_ (K7.out.below (bz_drew (bz_refl _)))
  have CS8 := h_ (SC.out _ _ _ I8.out HS8T.out HSC.out K8.out)
  refine wp_region_held_drew (S := fun W => W.cell? ⟨b, 0, none⟩ = some (S bu.sch) ∧ W.cell? ⟨bx, 2, none⟩ = some (.string t) ∧ W.cell? ⟨bb, 18, none⟩ = some bv) (by kernel_rfl) (by with_reducible first | exact CS10.out | exact CS9.out | exact CS8.out) (fun hHeld => ?_)
  refine tk 0 (v := ?_) rfl (by kernel_rfl) (by kernel_rfl) (by kernel_rfl) (fun _ _ _ h => h) (by rfl) (by assumption) (fun wS hSw => ?_) ?_
  rotate_left
  ·(try dsimp only at hSw); go_simp; first | done | with_reducible rfl
  try simp only [Act.put, List.setIfInBounds_toArray, List.set_cons_zero, List.set_cons_succ]
  refine tk 1 (v := ?_) rfl (by kernel_rfl) (by kernel_rfl) (by kernel_rfl) (fun _ _ _ h => h) (by rfl) (by assumption) (fun wS hSw => ?_) ?_
  rotate_left
  ·(try dsimp only at hSw)
   refine load1_exec 9 (.tmp 55) ?_ b 0 (S bu.sch) _ Tryz.underlying9 rfl ?_ ?_
   ·rfl
   ·rfl
   ·exact hSw.1
  try simp only [Act.put, List.setIfInBounds_toArray, List.set_cons_zero, List.set_cons_succ]
  refine tk 2 (v := ?_) rfl (by kernel_rfl) (by kernel_rfl) (by kernel_rfl) (fun _ _ _ h => h) (by rfl) (by assumption) (fun wS hSw => ?_) ?_
  rotate_left
  ·(try dsimp only at hSw); go_simp; first | done | with_reducible rfl
  try simp only [Act.put, List.setIfInBounds_toArray, List.set_cons_zero, List.set_cons_succ]
  refine tk 3 (v := ?_) rfl (by kernel_rfl) (by kernel_rfl) (by kernel_rfl) (fun _ _ _ h => h) (by rfl) (by assumption) (fun wS hSw => ?_) ?_
  rotate_left
  ·(try dsimp only at hSw)
   refine load1_exec 9 (.tmp 57) ?_ bx 2 (.string t) _ Tryz.underlying9 rfl ?_ ?_
   ·rfl
   ·rfl
   ·exact hSw.2.1
  try simp only [Act.put, List.setIfInBounds_toArray, List.set_cons_zero, List.set_cons_succ]
  refine tk 4 (v := ?_) rfl (by kernel_rfl) (by kernel_rfl) (by kernel_rfl) (fun _ _ _ h => h) (by rfl) (by assumption) (fun wS hSw => ?_) ?_
  rotate_left
  ·(try dsimp only at hSw); go_simp; first | done | with_reducible rfl
  try simp only [Act.put, List.setIfInBounds_toArray, List.set_cons_zero, List.set_cons_succ]
  refine rn 5 (by kernel_rfl) rfl (by rfl) (fun K hK => ?_)
  go_simp
  refine (HSG.out _).mono ?_
  rintro e w9 ⟨pv, rfl, o9, hb⟩
  have O9 := h_ (own_base (own_st o9) (show b + 1 <= _ from I8.out.lt)); have I9 := h_ (I8.out.below hb); have K9 := h_ (K8.out.below hb)
  have CS9 := h_ (SC.out _ _ _ I9.out HS8T.out HSC.out K9.out)
  clear o9 hb
  refine hK.out _ _ ?_ (fun hHeld => ?_)
  ·with_reducible first | exact CS10.out | exact CS9.out | exact CS8.out
  clear hK K
  try simp only [Act.put, List.setIfInBounds_toArray, List.set_cons_zero, List.set_cons_succ]
  refine tk 6 (v := ?_) rfl (by kernel_rfl) (by kernel_rfl) (by kernel_rfl) (fun _ _ _ h => h) (by rfl) (by assumption) (fun wS hSw => ?_) ?_
  rotate_left
  ·(try dsimp only at hSw); go_simp; first | done | with_reducible rfl
  try simp only [Act.put, List.setIfInBounds_toArray, List.set_cons_zero, List.set_cons_succ]
  refine rn 7 (by kernel_rfl) rfl (by rfl) (fun K hK => ?_)
  refine put1_wp 28 (.tmp 61) (.tmp 60) rfl w b 30 (uCells nilV (takeA us bu)) I9.out 18 pv rfl rfl (u_lt HS8T.out (by decide)) sl_info (own_one O9.out) (uCells pv { takeA us bu with path := PP }) ((uPut nilV (takeA us bu) HS8T.out).path _ _) ?_
  intro w10 i10 t10
  have I10 := h_ i10; have K10 := h_ (K9.out.tn t10); have O10 := h_ (t10.row O9.out (Nat.lt_succ_self b))
  have CS10 := h_ (SC.out _ _ { takeA us bu with path := PP } I10.out HS8T.out HSC.out K10.out)
  clear i10 t10
  refine hK.out _ _ ?_ (fun hHeld => ?_)
  ·with_reducible first | exact CS10.out | exact CS9.out | exact CS8.out
  clear hK K
  try simp only [Act.put]
  refine wpAnyH_done (by kernel_rfl) ?_ _
  go_wp2_with (first
   | (refine getU rfl (.tmp 5) rfl w b pv { takeA us bu with path := PP } I10.out HS8T.out rfl ?_)
   | (refine putU rfl (.tmp 4) (.tmp 70) rfl w br (OB.of K10.out.cr HLE.out I10.out.bel) pv { takeA us bu with path := PP } HS8T.out (own_one O10.out) rfl rfl ?_; intro wZ iZ tZ; have IZ := h_ iZ; have OZ := h_ (own_base (tZ.row O10.out HBB3.out) HLB.out); clear iZ tZ)
   | fail)
  rw [HRA.out]
  exact u_res (u := { takeA us bu with path := PP }) Tryz.results125 HS8T.out rfl IZ.out ⟨pv, rfl, OZ.out, IZ.out.bel⟩
 ·have hN0 := HNN.out
  by_cases hrest : p.rest = []
  ·have HRA := h_ (show R = some (takeP (takeA us bu) bu) by rw [HR.out, if_neg (by omega), if_neg (by omega), if_neg (by omega), if_pos hrest])
   have he1 : t.toList.isEmpty = true := by rw [HT.out, toList_bs, hrest]; rfl
   clear hrest hN0
   go_upto_region 14 with (first
    | (go_at_call 146; refine (HSL.out _).mono ?_; rintro e w6 ⟨rfl, hw⟩; subst hw)
    | (refine getU rfl (.tmp 2) rfl w bb bv bu (OB.of K5.out.cb (Nat.le_of_eq HBB.out.symm) I5.out.bel) H8.out rfl ?_)
    | (go_at_call 155; refine (takeAuth_any w b nilV bv us bu _ I5.out HS8.out H8.out).mono ?_; rintro e w7 ⟨rfl, i7, t7⟩; have I7 := h_ i7; have K7 := h_ (K5.out.tn t7); have e0 := (SC.out _ _ _ I7.out HS8T.out HSC.out K7.out).2.1; clear i7 t7)
    | fail)
   clear c0 d2
   go_upto_region 15 with (first
    | (refine getU rfl (.tmp 2) rfl w bb bv bu (OB.of K7.out.cb (Nat.le_of_eq HBB.out.symm) I7.out.bel) H8.out rfl ?_)
    | (go_at_call 150; refine (takePath_any w b nilV bv (takeA us bu) bu _ I7.out HS8T.out H8.out ((HBV.out.below I7.out.bel).more I7.out.bel.size) (by have := HBS.out.le; omega)).mono ?_; rintro e w8 ⟨rfl, pv, i8, o8, t8⟩; have I8 := h_ i8; have O8 := h_ (own_base o8 (show b + 1 <= _ from I7.out.lt)); have K8 := h_ (K7.out.tn t8); clear i8 o8 t8)
    | fail)
   go_wp2_with (first
    | (refine getU rfl (.tmp 5) rfl w b pv (takeP (takeA us bu) bu) I8.out HS8P.out rfl ?_)
    | (refine putU rfl (.tmp 4) (.tmp 70) rfl w br (OB.of K8.out.cr HLE.out I8.out.bel) pv (takeP (takeA us bu) bu) HS8P.out (own_one O8.out) rfl rfl ?_; intro wZ iZ tZ; have IZ := h_ iZ; have OZ := h_ (own_base (tZ.row O8.out HBB3.out) HLB.out); clear iZ tZ)
    | fail)
   rw [HRA.out]
   exact u_res (u := (takeP (takeA us bu) bu)) Tryz.results125 HS8P.out rfl IZ.out ⟨pv, rfl, by rw [takeP_path]; exact OZ.out, IZ.out.bel⟩
  ·obtain ⟨PP, hPP⟩ := ex_ (segP bu.sch (shortF bu.sch bu.path) p.rest)
   have HRA := h_ (show R = some { takeA us bu with path := PP } by rw [HR.out, if_neg (by omega), if_neg (by omega), if_neg (by omega), if_neg hrest, hPP])
   have he1 : t.toList.isEmpty = false := by
    have : ¬ t.toList = [] := by rw [HT.out, toList_bs]; exact hrest
    simpa using this
   have HSG := h_ (fun W v (h : Sl W.heap.size W v ((shortF bu.sch bu.path).map S)) => (show Calls Tryz.prog 149 #[S bu.sch, v, .string t] W (RetRow W 9 (Strs PP)) from by rw [hPP, HT.out]; exact sparse_any bu.sch p.rest (shortF bu.sch bu.path) v W h HRS.out.l (by have := short_len bu.sch bu.path; have := HBS.out.le; omega) (fun x hx => HBS.out.all x (short_mem hx))))
   clear hPP hrest hN0
   go_upto_region 4 with (first
    | (go_at_call 146; refine (HSL.out _).mono ?_; rintro e w6 ⟨rfl, hw⟩; subst hw)
    | (refine getU rfl (.tmp 2) rfl w bb bv bu (OB.of K5.out.cb (Nat.le_of_eq HBB.out.symm) I5.out.bel) H8.out rfl ?_)
    | (go_at_call 155; refine (takeAuth_any w b nilV bv us bu _ I5.out HS8.out H8.out).mono ?_; rintro e w7 ⟨rfl, i7, t7⟩; have I7 := h_ i7; have K7 := h_ (K5.out.tn t7); have e0 := (SC.out _ _ _ I7.out HS8T.out HSC.out K7.out).2.1; clear i7 t7)
    | fail)
   clear c0 d2
   have I8 := h_ (I7.out.below (bz_drew (bz_refl _)))
   have K8 := h_ (K7.out.below (bz_drew (bz_refl _)))
   have CS8 := h_ (SC.out _ _ _ I8.out HS8T.out HSC.out K8.out)
   refine wp_region_held_drew (S := fun W => W.cell? ⟨b, 0, none⟩ = some (S bu.sch) ∧ W.cell? ⟨bx, 2, none⟩ = some (.string t) ∧ W.cell? ⟨bb, 18, none⟩ = some bv) (by kernel_rfl) (by with_reducible first | exact CS11.out | exact CS10.out | exact CS9.out | exact CS8.out) (fun hHeld => ?_)
   refine tk 0 (v := ?_) rfl (by kernel_rfl) (by kernel_rfl) (by kernel_rfl) (fun _ _ _ h => h) (by rfl) (by assumption) (fun wS hSw => ?_) ?_
   rotate_left
   ·(try dsimp only at hSw); go_simp; first | done | with_reducible rfl
   try simp only [Act.put, List.setIfInBounds_toArray, List.set_cons_zero, List.set_cons_succ]
   refine tk 1 (v := ?_) rfl (by kernel_rfl) (by kernel_rfl) (by kernel_rfl) (fun _ _ _ h => h) (by rfl) (by assumption) (fun wS hSw => ?_) ?_
   rotate_left
   ·(try dsimp only at hSw)
    refine load1_exec 9 (.tmp 18) ?_ b 0 (S bu.sch) _ Tryz.underlying9 rfl ?_ ?_
    ·rfl
    ·rfl
    ·exact hSw.1
   try simp only [Act.put, List.setIfInBounds_toArray, List.set_cons_zero, List.set_cons_succ]
   refine tk 2 (v := ?_) rfl (by kernel_rfl) (by kernel_rfl) (by kernel_rfl) (fun _ _ _ h => h) (by rfl) (by assumption) (fun wS hSw => ?_) ?_
   rotate_left
   ·(try dsimp only at hSw); go_simp; first | done | with_reducible rfl
   try simp only [Act.put, List.setIfInBounds_toArray, List.set_cons_zero, List.set_cons_succ]
   refine tk 3 (v := ?_) rfl (by kernel_rfl) (by kernel_rfl) (by kernel_rfl) (fun _ _ _ h => h) (by rfl) (by assumption) (fun wS hSw => ?_) ?_
   rotate_left
   ·(try dsimp only at hSw)
    refine load1_exec 9 (.tmp 20) ?_ b 0 (S bu.sch) _ Tryz.underlying9 rfl ?_ ?_
    ·rfl
    ·rfl
    ·exact hSw.1
   try simp only [Act.put, List.setIfInBounds_toArray, List.set_cons_zero, List.set_cons_succ]
   refine tk 4 (v := ?_) rfl (by kernel_rfl) (by kernel_rfl) (by kernel_rfl) (fun _ _ _ h => h) (by rfl) (by assumption) (fun wS hSw => ?_) ?_
   rotate_left
   ·(try dsimp only at hSw); go_simp; first | done | with_reducible rfl
   try simp only [Act.put, List.setIfInBounds_toArray, List.set_cons_zero, List.set_cons_succ]
   refine tk 5 (v := ?_) rfl (by kernel_rfl) (by kernel_rfl) (by kernel_rfl) (fun _ _ _ h => h) (by rfl) (by assumption) (fun wS hSw => ?_) ?_
   rotate_left
   ·(try dsimp only at hSw)
    refine load1_exec 28 (.tmp 22) ?_ bb 18 bv _ Tryz.underlying28 rfl ?_ ?_
    ·rfl
    ·rfl
    ·exact hSw.2.2
   try simp only [Act.put, List.setIfInBounds_toArray, List.set_cons_zero, List.set_cons_succ]
   refine tk 7 (v := ?_) rfl (by kernel_rfl) (by kernel_rfl) (by kernel_rfl) (fun _ _ _ h => h) (by rfl) (by assumption) (fun wS hSw => ?_) ?_
   rotate_left
   ·(try dsimp only at hSw); go_simp; first | done | with_reducible rfl
   try simp only [Act.put, List.setIfInBounds_toArray, List.set_cons_zero, List.set_cons_succ]
   refine tk 8 (v := ?_) rfl (by kernel_rfl) (by kernel_rfl) (by kernel_rfl) (fun _ _ _ h => h) (by rfl) (by assumption) (fun wS hSw => ?_) ?_
   rotate_left
   ·(try dsimp only at hSw)
    refine load1_exec 9 (.tmp 25) ?_ bx 2 (.string t) _ Tryz.underlying9 rfl ?_ ?_
    ·rfl
    ·rfl
    ·exact hSw.2.1
   try simp only [Act.put, List.setIfInBounds_toArray, List.set_cons_zero, List.set_cons_succ]
   refine rn 6 (by kernel_rfl) rfl (by rfl) (fun K hK => ?_)
   go_simp
   refine (shorten_any bu.sch bu.path bv _ ((HBV.out.below I8.out.bel).more I8.out.bel.size) (by have := HBS.out.le; omega) HBS.out.all).mono ?_
   rintro e w9 ⟨sv, rfl, o9, hb⟩
   have O9 := h_ (Sl.of_own o9); have I9 := h_ (I8.out.below hb); have K9 := h_ (K8.out.below hb)
   have CS9 := h_ (SC.out _ _ _ I9.out HS8T.out HSC.out K9.out)
   clear o9 hb
   refine hK.out _ _ ?_ (fun hHeld => ?_)
   ·with_reducible first | exact CS11.out | exact CS10.out | exact CS9.out | exact CS8.out
   clear hK K
   try simp only [Act.put, List.setIfInBounds_toArray, List.set_cons_zero, List.set_cons_succ]
   refine rn 9 (by kernel_rfl) rfl (by rfl) (fun K hK => ?_)
   go_simp
   refine (HSG.out _ _ O9.out).mono ?_
   rintro e w10 ⟨pv, rfl, o10, hb⟩
   have O10 := h_ (own_base (own_st o10) (show b + 1 <= _ from I9.out.lt)); have I10 := h_ (I9.out.below hb); have K10 := h_ (K9.out.below hb)
   have CS10 := h_ (SC.out _ _ _ I10.out HS8T.out HSC.out K10.out)
   clear o10 hb
   refine hK.out _ _ ?_ (fun hHeld => ?_)
   ·with_reducible first | exact CS11.out | exact CS10.out | exact CS9.out | exact CS8.out
   clear hK K
   try simp only [Act.put, List.setIfInBounds_toArray, List.set_cons_zero, List.set_cons_succ]
   refine tk 10 (v := ?_) rfl (by kernel_rfl) (by kernel_rfl) (by kernel_rfl) (fun _ _ _ h => h) (by rfl) (by assumption) (fun wS hSw => ?_) ?_
   rotate_left
   ·(try dsimp only at hSw); go_simp; first | done | with_reducible rfl
   try simp only [Act.put, List.setIfInBounds_toArray, List.set_cons_zero, List.set_cons_succ]
   refine rn 11 (by kernel_rfl) rfl (by rfl) (fun K hK => ?_)
   refine put1_wp 28 (.tmp 28) (.tmp 27) rfl w b 30 (uCells nilV (takeA us bu)) I10.out 18 pv rfl rfl (u_lt HS8T.out (by decide)) sl_info (own_one O10.out) (uCells pv { takeA us bu with path := PP }) ((uPut nilV (takeA us bu) HS8T.out).path _ _) ?_
   intro w11 i11 t11
   have I11 := h_ i11; have K11 := h_ (K10.out.tn t11); have O11 := h_ (t11.row O10.out (Nat.lt_succ_self b))
   have CS11 := h_ (SC.out _ _ { takeA us bu with path := PP } I11.out HS8T.out HSC.out K11.out)
   clear i11 t11
   refine hK.out _ _ ?_ (fun hHeld => ?_)
   ·with_reducible first | exact CS11.out | exact CS10.out | exact CS9.out | exact CS8.out
   clear hK K
   try simp only [Act.put]
   refine wpAnyH_done (by kernel_rfl) ?_ _
   go_wp2_with (first
    | (refine getU rfl (.tmp 5) rfl w b pv { takeA us bu with path := PP } I11.out HS8T.out rfl ?_)
    | (refine putU rfl (.tmp 4) (.tmp 70) rfl w br (OB.of K11.out.cr HLE.out I11.out.bel) pv { takeA us bu with path := PP } HS8T.out (own_one O11.out) rfl rfl ?_; intro wZ iZ tZ; have IZ := h_ iZ; have OZ := h_ (own_base (tZ.row O11.out HBB3.out) HLB.out); clear iZ tZ)
    | fail)
   rw [HRA.out]
   exact u_res (u := { takeA us bu with path := PP }) Tryz.results125 HS8T.out rfl IZ.out ⟨pv, rfl, OZ.out, IZ.out.bel⟩
end Go.Proofs.YtpckaimpjccjhaaGreatDoor
