/- NumT SerW EmD EmE EmF EmG EmH EmJ EmK: joined. -/
import Derived.Shelf.Strconv.Itoa4
import Derived.Test.YtpckaimpjccjhaaGreatDoorGNumB
import Derived.Deep.DeepCutAuto
import Derived.Test.YtpckaimpjccjhaaGreatDoorGEmB
set_option maxHeartbeats 40000000
namespace Go.Proofs.YtpckaimpjccjhaaGreatDoor
open Go.RowKit
set_option maxRecDepth 10000
theorem rText_small (u : Nat) (w : World) (h10 : u < 10) : Calls Tryz.prog 31 #[.int .i64 u] w fun e w' => e = .returned (S (Lib.decDigits u)) ∧ Below w.heap.size w w' := by
 have hi : (u : Int) < 10 := by omega
 have hi0 : (0 : Int) <= u := by omega
 have hcv := fun W => conv1 (P := Tryz.prog) Tryz.underlying38 Tryz.underlying5 Tryz.underlying9 ((48 : Int) + u) (by omega) W
 have hd := dec_small h10
 have hb : UInt8.ofNat ((48 : Int) + u).toNat = UInt8.ofNat (48 + u) := by congr 1
 rw [hb, <- hd] at hcv
 clear hb hd
 go_enter Tryz.func31, Tryz.ntmps31
 go_wp2_with fail
 go_ret
 exact ⟨rfl, (Below.refl _ _).alloc (Nat.le_refl _) _⟩
theorem rText_pos : ∀ (u : Nat) (w : World), u <= 9223372036854775807 -> Calls Tryz.prog 31 #[.int .i64 u] w fun e w' => e = .returned (S (Lib.decDigits u)) ∧ Below w.heap.size w w' := by
 intro u
 induction u using Nat.strongRecOn with
 | ind u ih =>
  intro w hu
  by_cases h10 : u < 10
  ·exact rText_small u w h10
  have hi : ¬ (u : Int) < 10 := by omega
  have hi0 : (0 : Int) <= u := by omega
  have hcv := fun W => conv1 (P := Tryz.prog) Tryz.underlying38 Tryz.underlying5 Tryz.underlying9 ((48 : Int) + (u : Int) % 10) (by omega) W
  have hi2 : (u : Int) <= 9223372036854775807 := by omega
  have w1 : IntKind.i64.wrap ((u : Int) / 10) = (u : Int) / 10 := IntWalk.i64_in _ (by omega)
  have w2 : (u : Int).tmod 10 = (u : Int) % 10 := Int.tmod_eq_emod_of_nonneg (by omega)
  have w3 : IntKind.i64.wrap (48 + (u : Int) % 10) = 48 + (u : Int) % 10 := IntWalk.i64_in _ (by omega)
  have w4 : IntKind.u8.wrap (48 + (u : Int) % 10) = 48 + (u : Int) % 10 := IntWalk.u8_in _ (by omega)
  have hd := dec_big h10
  have hb : UInt8.ofNat ((48 : Int) + (u : Int) % 10).toNat = UInt8.ofNat (48 + u % 10) := by congr 1
  have hcvB := fun b W => conv1B (P := Tryz.prog) Tryz.underlying38 Tryz.underlying5 Tryz.underlying9 ((48 : Int) + (u : Int) % 10) (by omega) b W
  rw [hb] at hcv hcvB
  have hrec : ∀ (q : Int), q = ((u / 10 : Nat) : Int) -> ∀ W, Calls Tryz.prog 31 #[.int .i64 q] W fun e w' => e = .returned (S (Lib.decDigits (u / 10))) ∧ Below W.heap.size W w' := fun q hq W => hq ▸ ih (u / 10) (by omega) W (by omega)
  have hlen := dec_len_le 18 (u / 10) (by omega)
  have hcat := bs_app (Lib.decDigits (u / 10)) [UInt8.ofNat (48 + u % 10)]
  rw [<- hd] at hcat
  obtain ⟨dg, hdg⟩ := ex_ (UInt8.ofNat (48 + u % 10))
  rw [<- hdg] at hcat hcv hcvB
  clear hdg
  obtain ⟨D, hD⟩ := ex_ (Lib.decDigits u)
  obtain ⟨T, hT⟩ := ex_ (Lib.decDigits (u / 10))
  rw [<- hD] at hcat ⊢
  rw [<- hT] at hcat hrec hlen
  have hlt : ¬ 9223372036854775807 < T.length + 1 := by omega
  clear hb hd ih hD hT
  have HREC := h_ hrec; clear hrec
  have HCB := h_ hcvB; clear hcvB
  go_enter Tryz.func31, Tryz.ntmps31
  go_wp2_with fail
  refine wp_region_held_drew (S := fun _ => True) (by kernel_rfl) (by exact trivial) (fun hHeld => ?_)
  refine tk 0 (v := ?_) rfl (by kernel_rfl) (by kernel_rfl) (by kernel_rfl) (fun _ _ _ h => h) (by rfl) (by assumption) (fun w hSw => ?_) ?_
  rotate_left
  ·(try dsimp only at hSw); go_simp; first | done | with_reducible rfl
  try simp only [Act.put, List.setIfInBounds_toArray, List.set_cons_zero, List.set_cons_succ]
  refine tk 1 (v := ?_) rfl (by kernel_rfl) (by kernel_rfl) (by kernel_rfl) (fun _ _ _ h => h) (by rfl) (by assumption) (fun w hSw => ?_) ?_
  rotate_left
  ·(try dsimp only at hSw); go_simp; first | done | with_reducible rfl
  try simp only [Act.put, List.setIfInBounds_toArray, List.set_cons_zero, List.set_cons_succ]
  refine tk 3 (v := ?_) rfl (by kernel_rfl) (by kernel_rfl) (by kernel_rfl) (fun _ _ _ h => h) (by rfl) (by assumption) (fun w hSw => ?_) ?_
  rotate_left
  ·(try dsimp only at hSw); go_simp; first | done | with_reducible rfl
  try simp only [Act.put, List.setIfInBounds_toArray, List.set_cons_zero, List.set_cons_succ]
  refine tk 4 (v := ?_) rfl (by kernel_rfl) (by kernel_rfl) (by kernel_rfl) (fun _ _ _ h => h) (by rfl) (by assumption) (fun w hSw => ?_) ?_
  rotate_left
  ·(try dsimp only at hSw); go_simp; first | done | with_reducible rfl
  try simp only [Act.put, List.setIfInBounds_toArray, List.set_cons_zero, List.set_cons_succ]
  refine tk 5 (v := ?_) rfl (by kernel_rfl) (by kernel_rfl) (by kernel_rfl) (fun _ _ _ h => h) (by rfl) (by assumption) (fun w hSw => ?_) ?_
  rotate_left
  ·(try dsimp only at hSw); go_simp; first | done | with_reducible rfl
  try simp only [Act.put, List.setIfInBounds_toArray, List.set_cons_zero, List.set_cons_succ]
  refine tk 6 (v := ?_) rfl (by kernel_rfl) (by kernel_rfl) (by kernel_rfl) (fun _ _ _ h => h) (by rfl) (by assumption) (fun w hSw => ?_) ?_
  rotate_left
  ·(try dsimp only at hSw); go_simp; first | done | with_reducible rfl
  try simp only [Act.put, List.setIfInBounds_toArray, List.set_cons_zero, List.set_cons_succ]
  refine rn2 2 7 (by kernel_rfl) rfl (by rfl) ?_ rfl (by rfl) ?_
  ·intro K hK
   go_simp
   refine (HREC.out _ (by omega) _).mono ?_
   rintro e w2 ⟨rfl, hb2⟩
   have HB2 := h_ hb2; clear hb2
   dsimp only
   refine hK.out _ _ ?_ (fun hHeld => ?_)
   ·exact trivial
   clear hK K
   try simp only [Act.put, List.setIfInBounds_toArray, List.set_cons_zero, List.set_cons_succ]
   refine rn 7 (by kernel_rfl) rfl (by rfl) (fun K hK => ?_)
   go_simp
   refine hK.out _ _ ?_ (fun hHeld => ?_)
   ·exact trivial
   clear hK K
   try simp only [Act.put, List.setIfInBounds_toArray, List.set_cons_zero, List.set_cons_succ]
   refine rn 8 (by kernel_rfl) rfl (by rfl) (fun K hK => ?_)
   go_simp
   refine hK.out _ _ ?_ (fun hHeld => ?_)
   ·exact trivial
   clear hK K
   try simp only [Act.put, List.setIfInBounds_toArray, List.set_cons_zero, List.set_cons_succ]
   refine tk 9 (v := ?_) rfl (by kernel_rfl) (by kernel_rfl) (by kernel_rfl) (fun _ _ _ h => h) (by rfl) (by assumption) (fun w hSw => ?_) ?_
   rotate_left
   ·(try dsimp only at hSw); go_simp; first | done | with_reducible rfl
   try simp only [Act.put, List.setIfInBounds_toArray, List.set_cons_zero, List.set_cons_succ]
   refine tk 10 (v := ?_) rfl (by kernel_rfl) (by kernel_rfl) (by kernel_rfl) (fun _ _ _ h => h) (by rfl) (by assumption) (fun w hSw => ?_) ?_
   rotate_left
   ·(try dsimp only at hSw); go_simp; first | done | with_reducible rfl
   try simp only [Act.put, List.setIfInBounds_toArray, List.set_cons_zero, List.set_cons_succ]
   refine wpAnyH_done (by kernel_rfl) ?_ _
   go_wp2_with fail
   go_ret
   refine ⟨rfl, ?_⟩
   have hb2 := HB2.out
   have hbw : Below w.heap.size w w2 := by
    first
     | exact (Below.refl w.heap.size w).drew.trans hb2
     | exact ((Below.refl w.heap.size w).alloc (Nat.le_refl _) _).drew.trans (Below.mono (B' := w.heap.size) hb2 (by simp))
   first
    | exact hbw
    | exact hbw.alloc hbw.size _
  ·intro K hK
   go_simp
   refine hK.out _ _ ?_ (fun hHeld => ?_)
   ·exact trivial
   clear hK K
   try simp only [Act.put, List.setIfInBounds_toArray, List.set_cons_zero, List.set_cons_succ]
   refine rn2 2 8 (by kernel_rfl) rfl (by rfl) ?_ rfl (by rfl) ?_
   ·intro K hK
    go_simp
    refine (HREC.out _ (by omega) _).mono ?_
    rintro e w2 ⟨rfl, hb2⟩
    have HB2 := h_ hb2; clear hb2
    dsimp only
    refine hK.out _ _ ?_ (fun hHeld => ?_)
    ·exact trivial
    clear hK K
    try simp only [Act.put, List.setIfInBounds_toArray, List.set_cons_zero, List.set_cons_succ]
    refine rn 8 (by kernel_rfl) rfl (by rfl) (fun K hK => ?_)
    go_simp
    rw [HCB.out _ _ ((HB2.out.cell (p := ⟨w.heap.size, 0, none⟩) (by simp)).trans (by simp [World.cell?_alloc_mark]))]
    simp only [Result.andThen]
    rw [Oper.upon_value]
    go_simp
    refine hK.out _ _ ?_ (fun hHeld => ?_)
    ·exact trivial
    clear hK K
    try simp only [Act.put, List.setIfInBounds_toArray, List.set_cons_zero, List.set_cons_succ]
    refine tk 9 (v := ?_) rfl (by kernel_rfl) (by kernel_rfl) (by kernel_rfl) (fun _ _ _ h => h) (by rfl) (by assumption) (fun w hSw => ?_) ?_
    rotate_left
    ·(try dsimp only at hSw); go_simp; first | done | with_reducible rfl
    try simp only [Act.put, List.setIfInBounds_toArray, List.set_cons_zero, List.set_cons_succ]
    refine tk 10 (v := ?_) rfl (by kernel_rfl) (by kernel_rfl) (by kernel_rfl) (fun _ _ _ h => h) (by rfl) (by assumption) (fun w hSw => ?_) ?_
    rotate_left
    ·(try dsimp only at hSw); go_simp; first | done | with_reducible rfl
    try simp only [Act.put, List.setIfInBounds_toArray, List.set_cons_zero, List.set_cons_succ]
    refine wpAnyH_done (by kernel_rfl) ?_ _
    go_wp2_with fail
    go_ret
    refine ⟨rfl, ?_⟩
    have hb2 := HB2.out
    have hbw : Below w.heap.size w w2 := by
     first
      | exact (Below.refl w.heap.size w).drew.trans hb2
      | exact ((Below.refl w.heap.size w).alloc (Nat.le_refl _) _).drew.trans (Below.mono (B' := w.heap.size) hb2 (by simp))
    first
     | exact hbw
     | exact hbw.alloc hbw.size _
   ·intro K hK
    go_simp
    rw [HCB.out _ _ (by simp [World.cell?_alloc_mark])]
    simp only [Result.andThen]
    rw [Oper.upon_value]
    go_simp
    refine hK.out _ _ ?_ (fun hHeld => ?_)
    ·exact trivial
    clear hK K
    try simp only [Act.put, List.setIfInBounds_toArray, List.set_cons_zero, List.set_cons_succ]
    refine rn 2 (by kernel_rfl) rfl (by rfl) (fun K hK => ?_)
    go_simp
    refine (HREC.out _ (by omega) _).mono ?_
    rintro e w2 ⟨rfl, hb2⟩
    have HB2 := h_ hb2; clear hb2
    dsimp only
    refine hK.out _ _ ?_ (fun hHeld => ?_)
    ·exact trivial
    clear hK K
    try simp only [Act.put, List.setIfInBounds_toArray, List.set_cons_zero, List.set_cons_succ]
    refine tk 9 (v := ?_) rfl (by kernel_rfl) (by kernel_rfl) (by kernel_rfl) (fun _ _ _ h => h) (by rfl) (by assumption) (fun w hSw => ?_) ?_
    rotate_left
    ·(try dsimp only at hSw); go_simp; first | done | with_reducible rfl
    try simp only [Act.put, List.setIfInBounds_toArray, List.set_cons_zero, List.set_cons_succ]
    refine tk 10 (v := ?_) rfl (by kernel_rfl) (by kernel_rfl) (by kernel_rfl) (fun _ _ _ h => h) (by rfl) (by assumption) (fun w hSw => ?_) ?_
    rotate_left
    ·(try dsimp only at hSw); go_simp; first | done | with_reducible rfl
    try simp only [Act.put, List.setIfInBounds_toArray, List.set_cons_zero, List.set_cons_succ]
    refine wpAnyH_done (by kernel_rfl) ?_ _
    go_wp2_with fail
    go_ret
    refine ⟨rfl, ?_⟩
    have hb2 := HB2.out
    have hbw : Below w.heap.size w w2 := by
     first
      | exact (Below.refl w.heap.size w).drew.trans hb2
      | exact ((Below.refl w.heap.size w).alloc (Nat.le_refl _) _).drew.trans (Below.mono (B' := w.heap.size) hb2 (by simp))
    first
     | exact hbw
     | exact hbw.alloc hbw.size _
theorem itoa_any (n : Int) (w : World) (h0 : -9223372036854775808 <= n) (h1 : n <= 9223372036854775807) (hE : NE w) :
  Calls Tryz.prog 82 #[.int .i64 n] w fun e w' => e = .returned (S (Lib.itoa n)) ∧ Below w.heap.size w w' :=
 (Any.strconv_Itoa Tryz.laysItoa n h0 h1 w hE.tab).mono fun _ _ ⟨h2, k, os, h3⟩ => ⟨h2, h3 ▸ Lib.below_grow w.heap.size w (Nat.le_refl _) k os⟩

def portF (u : Url) : Bytes := if u.hasPort then [58] ++ Lib.itoa u.port else []
def dotF (u : Url) : Bytes := if u.opq = false ∧ 2 <= u.path.length ∧ u.path.head? = some [] then [47, 46] else []
def aheadF (u : Url) : Bytes := if u.host.kind = 0 then dotF u else [47, 47] ++ whoF u ++ hostF u.host ++ portF u
def qF (u : Url) : Bytes := if u.hasQ then [63] ++ u.q else []
def frF (u : Url) (frag : Bool) : Bytes := if u.hasF && frag then [35] ++ u.f else []
def serF (u : Url) (frag : Bool) : Bytes := u.sch ++ [58] ++ aheadF u ++ pathF u ++ qF u ++ frF u frag
structure UrlSm (u : Url) : Prop where
 sch : u.sch.length <= 1024000000
 usr : u.usr.length <= 102400000
 pas : u.pas.length <= 102400000
 name : u.host.name.length <= 102400000
 flat : u.flat.length <= 1024000000
 path : (joinP u.path).length <= 1024000000
 q : u.q.length <= 1024000000
 f : u.f.length <= 1024000000
theorem itoa_len (n : Int) (h0 : -9223372036854775808 <= n) (h1 : n <= 9223372036854775807) : (Lib.itoa n).length <= 21 := by
 unfold Lib.itoa
 split
 ·have := dec_len_le 18 n.natAbs (by omega)
  rw [List.length_cons]; omega
 ·have := dec_len_le 18 n.toNat (by omega)
  omega
theorem whoF_len (u : Url) (h : UrlSm u) : (whoF u).length <= 204800002 := by
 have h1 := h.usr
 have h2 := h.pas
 unfold whoF
 split
 ·simp
 ·split <;> simp only [List.length_append, List.length_cons, List.length_nil] <;> omega
theorem portF_len (u : Url) (ok : UrlOk u) : (portF u).length <= 22 := by
 have := itoa_len u.port ok.p.1 ok.p.2
 unfold portF
 split
 ·rw [List.length_append]; simp; omega
 ·simp
theorem aheadF_len (u : Url) (ok : UrlOk u) (h : UrlSm u) : (aheadF u).length <= 409600000 := by
 have h1 := whoF_len u h
 have h2 := hostF_len u.host ok.h 102400000 h.name
 have h3 := portF_len u ok
 unfold aheadF dotF
 split
 ·split <;> simp
 ·simp only [List.length_append, List.length_cons, List.length_nil]; omega
theorem pathF_len (u : Url) (h : UrlSm u) : (pathF u).length <= 1024000000 := by
 unfold pathF
 split
 ·exact h.flat
 ·exact h.path
theorem qF_len (u : Url) (h : UrlSm u) : (qF u).length <= 1024000001 := by
 have := h.q
 unfold qF
 split
 ·rw [List.length_append]; simp; omega
 ·simp
theorem frF_len (u : Url) (h : UrlSm u) (fr : Bool) : (frF u fr).length <= 1024000001 := by
 have := h.f
 unfold frF
 split
 ·rw [List.length_append]; simp; omega
 ·simp
theorem serF_len (u : Url) (ok : UrlOk u) (h : UrlSm u) (fr : Bool) : (serF u fr).length <= 5120000000 := by
 have h1 := aheadF_len u ok h
 have h2 := pathF_len u h
 have h3 := qF_len u h
 have h4 := frF_len u h fr
 have h5 := h.sch
 unfold serF
 simp only [List.length_append, List.length_cons, List.length_nil]
 omega
theorem cellB {w1 W : World} {bx : Nat} {cs : Array Value} (hb : Below w1.heap.size w1 W) (hbx : bx < w1.heap.size) (HC : ∀ i, w1.cell? ⟨bx, i, none⟩ = cs[i]?) (i : Nat) : W.cell? ⟨bx, i, none⟩ = cs[i]? :=
 (hb.cell (p := ⟨bx, i, none⟩) hbx).trans (HC i)
theorem swr_any (u : Url) (cs : Array Value) (pv : Value) (fr : Bool) (w : World) (h : UrlAt cs pv u) (hp : Sl w.heap.size w pv (u.path.map S)) (hs : UrlSm u) (hE : NE w) :
  Calls Tryz.prog 39 #[.agg cs, .bool fr] w fun e w' => e = .returned (S (serF u fr)) ∧ Below w.heap.size w w' := by
 have hwho := fun W => who_any u cs pv W h hs.usr hs.pas
 have hhost := fun W (hW : Below w.heap.size w W) => hwrite_any u.host _ W (hstAt_of h.ok.h) hs.name (hE.below hW)
 have hpath := fun W (hW : Below w.heap.size w W) => spath_any u cs pv W h ((hp.below hW).more hW.size) hs.path
 have hitoa := fun W (hW : Below w.heap.size w W) => itoa_any u.port W h.ok.p.1 h.ok.p.2 (hE.below hW)
 have h0 := h.sch
 have h3 := h.kind
 have h14 := h.hasPort
 have h15 := h.port
 have h16 := h.opq
 have h18 := h.path
 have h19 := h.hasQ
 have h20 := h.q
 have h21 := h.hasF
 have h22 := h.f
 have hsz := h.sz
 have hC : ∀ j v, (hstCells u.host)[j]? = some v -> cs[3 + j]? = some v := by
  intro j v hj
  have hl : (hstCells u.host).length = 11 := by simp [hstCells, h.ok.h.l]
  have hj2 : j < 11 := by
   have := (List.getElem?_eq_some_iff.1 hj).1
   omega
  rw [h.hostC j hj2]; exact hj
 have hl11 : (hstCells u.host).length = 11 := by simp [hstCells, h.ok.h.l]
 have hser : serF u fr = u.sch ++ [58] ++ aheadF u ++ pathF u ++ qF u ++ frF u fr := rfl
 have hah : aheadF u = if u.host.kind = 0 then dotF u else [47, 47] ++ whoF u ++ hostF u.host ++ portF u := rfl
 have hdot : dotF u = if u.opq = false ∧ 2 <= u.path.length ∧ u.path.head? = some [] then [47, 46] else [] := rfl
 have hpo : portF u = if u.hasPort then [58] ++ Lib.itoa u.port else [] := rfl
 have hqf : qF u = if u.hasQ then [63] ++ u.q else [] := rfl
 have hff : frF u fr = if u.hasF && fr then [35] ++ u.f else [] := rfl
 have l1 := whoF_len u hs
 have l2 := hostF_len u.host h.ok.h 102400000 hs.name
 have l3 := aheadF_len u h.ok hs
 have l4 := pathF_len u hs
 have l5 := qF_len u hs
 have l6 := itoa_len u.port h.ok.p.1 h.ok.p.2
 have l7 := hs.sch
 have l8 := hs.q
 have l9 := hs.f
 have LL := h_ (And.intro l1 (And.intro l2 (And.intro l3 (And.intro l4 (And.intro l5 (And.intro l6 (And.intro l7 (And.intro l8 l9))))))))
 clear l1 l2 l3 l4 l5 l6 l7 l8 l9 h hs hE
 generalize hstCells u.host = c11 at hC hl11 hhost
 generalize serF u fr = RS at hser ⊢
 generalize whoF u = WH at *
 generalize hostF u.host = HO at *
 generalize portF u = PO at *
 generalize aheadF u = AH at *
 generalize dotF u = DO at *
 generalize pathF u = PA at *
 generalize qF u = QU at *
 generalize frF u fr = FR at *
 generalize Lib.itoa u.port = IT at *
 generalize u.sch = sch at *
 generalize u.host.kind = K at *
 generalize u.hasPort = hasPort at *
 generalize u.port = port at *
 generalize u.opq = opq at *
 generalize u.path = path at *
 generalize u.hasQ = hasQ at *
 generalize u.q = q at *
 generalize u.hasF = hasF at *
 generalize u.f = f at *
 have HWHO := h_ hwho; clear hwho
 have HHOST := h_ hhost; clear hhost
 have HPATH := h_ hpath; clear hpath
 have HITOA := h_ hitoa; clear hitoa
 have HC11 := h_ hC; clear hC
 have HL11 := h_ hl11; clear hl11
 have HSER := h_ hser; clear hser
 have HAH := h_ hah; clear hah
 have HDOT := h_ hdot; clear hdot
 have HPO := h_ hpo; clear hpo
 have HQF := h_ hqf; clear hqf
 have HFF := h_ hff; clear hff
 have HP := h_ hp; clear hp
 have HSZ := h_ hsz; clear hsz
 have HH := h_ (And.intro h3 (And.intro h14 (And.intro h15 (And.intro h16 (And.intro h18 (And.intro h19 (And.intro h20 (And.intro h21 h22))))))))
 clear h3 h14 h15 h16 h18 h19 h20 h21 h22
 go_enter Tryz.func39, Tryz.ntmps39
 go_upto_region 4 with (first
  | (refine boxed rfl _ _ rfl cs rfl ?_; intro bx w1 hb1 hb2 hb3 hb4 hb5; have HC := h_ hb4; have HB := h_ hb5; have HBX := h_ hb2; have c0 := (cellB ((Below.refl w1.heap.size w1).alloc (Nat.le_refl _) (.cells #[.pointer none, .slice none 0 0] 76)) hb2 hb4 0).trans h0; clear hb1 hb2 hb3 hb4 hb5)
  | (go_at_call 75; refine (Hb.ws sch (Hb.fresh w1) (by have := LL.out; simp; omega)).mono ?_; rintro e w2 ⟨rfl, hbd2⟩; have HBD2 := h_ hbd2; clear hbd2)
  | (go_at_call 55; refine (Hb.wb1 58 _ rfl HBD2.out (by have := LL.out; simp; omega)).mono ?_; rintro e w3 ⟨rfl, hbd3⟩; have HBD3 := h_ hbd3; clear hbd3)
  | fail)
 have hH := HH.out
 obtain ⟨h3, h14, h15, h16, h18, h19, h20, h21, h22⟩ := hH
 have CB := h_ (fun (W : World) (l : Bytes) (hb : Hb w1 l W) (i : Nat) => cellB hb.bel HBX.out HC.out i)
 have BW := h_ (fun (W : World) (l : Bytes) (hb : Hb w1 l W) => HB.out.trans (hb.bel.mono HB.out.size))
 have c3 := (CB.out _ _ HBD3.out 3).trans h3
 go_upto_if 13 with fail
 go_cut [] from 6 (fun wx => Hid (Hb w1 (sch ++ [58] ++ AH) wx))
 case first =>
  by_cases hk : K = 0
  ·have hah := HAH.out
   rw [if_pos hk] at hah
   subst hah
   obtain ⟨av, cc, hpv⟩ := slice_val HP.out
   rw [List.length_map] at hpv
   subst hpv
   have c16 := (CB.out _ _ HBD3.out 16).trans h16
   have c18 := (CB.out _ _ HBD3.out 18).trans h18
   have hdot := HDOT.out
   cases opq
   ·cases path with
    | nil =>
     rw [if_neg (by simp)] at hdot
     subst hdot
     go_wp2_with fail
     go_meet
     case rel =>
      show Hb w1 (sch ++ [58] ++ []) _
      rw [List.append_nil]
      exact HBD3.out
    | cons p0 ps =>
     have hpp := HP.out
     cases ps with
     | nil =>
      rw [if_neg (by simp)] at hdot
      subst hdot
      go_wp2_with fail
      go_meet
      case rel =>
       show Hb w1 (sch ++ [58] ++ []) _
       rw [List.append_nil]
       exact HBD3.out
     | cons p1 ps =>
      obtain ⟨pb, po, rfl, hpb, hpc⟩ := strs_at (hpp.below (BW.out _ _ HBD3.out)) 0 (by simp)
      simp only [List.getElem_cons_zero, Nat.add_zero] at hpc
      have hlen2 : (2 : Int) <= ((p0 :: p1 :: ps).length : Nat) := by simp; omega
      by_cases hp0 : p0 = []
      ·subst hp0
       rw [if_pos (by simp)] at hdot
       subst hdot
       have e1 : (bs []).toList.isEmpty = true := by rw [toList_bs]; rfl
       have e2 : (bs []).toList = [] := toList_bs _
       go_wp2_with (first
        | (go_at_call 75; refine (Hb.ws [47, 46] HBD3.out (by have := LL.out; simp; omega)).mono ?_; rintro e w4 ⟨rfl, hbd4⟩; have HBD4 := h_ hbd4; clear hbd4)
        | fail)
       go_meet
       case rel => exact HBD4.out
      ·rw [if_neg (by simp [hp0])] at hdot
       subst hdot
       have e1 : (bs p0).toList.isEmpty = false := by rw [toList_bs]; simpa using hp0
       have e2 : ¬ (bs p0).toList = [] := by rw [toList_bs]; exact hp0
       go_wp2_with fail
       go_meet
       case rel =>
        show Hb w1 (sch ++ [58] ++ []) _
        rw [List.append_nil]
        exact HBD3.out
   ·rw [if_neg (by simp)] at hdot
    subst hdot
    go_wp2_with fail
    go_meet
    case rel =>
     show Hb w1 (sch ++ [58] ++ []) _
     rw [List.append_nil]
     exact HBD3.out
  ·have hah := HAH.out
   rw [if_neg hk] at hah
   have HAH2 := h_ hah; clear hah
   have hpo := HPO.out
   have c14 := fun W (hW : Hb w1 (sch ++ [58] ++ [47, 47] ++ WH ++ HO) W) => (CB.out _ _ hW 14).trans h14
   have c15 := fun W (l : Bytes) (hW : Hb w1 l W) => (CB.out _ _ hW 15).trans h15
   have HC14 := h_ c14; clear c14
   have HC15 := h_ c15; clear c15
   go_wp2_with fail
   refine (Hb.ws [47, 47] HBD3.out (by have := LL.out; simp; omega)).mono ?_
   rintro e w4 ⟨rfl, hbd⟩
   have HBD4 := h_ hbd; clear hbd
   go_wp2_with (first
    | (refine wpList_load_mid rfl 30 _ rfl bx 0 rfl cs.toList _ (six_load 0 (fun i => by rw [Nat.zero_add]; exact CB.out _ _ HBD4.out i)) Tryz.underlying30 rfl (by rw [Array.length_toList, HSZ.out]; kernel_rfl) ?_)
    | fail)
   rw [Array.toArray_toList]
   refine (HWHO.out _).mono ?_
   rintro e w5 ⟨rfl, hb5⟩
   have HBD5 := h_ (HBD4.out.step hb5); clear hb5
   go_wp2_with fail
   refine (Hb.ws WH HBD5.out (by have := LL.out; simp; omega)).mono ?_
   rintro e w6 ⟨rfl, hbd⟩
   have HBD6 := h_ hbd; clear hbd
   go_wp2_with (first
    | (refine wpList_load_mid rfl 27 _ rfl bx 3 rfl c11 _ (fun j v hv => by rw [CB.out _ _ HBD6.out (3 + j)]; exact HC11.out j v hv) Tryz.underlying27 rfl (by rw [HL11.out]; kernel_rfl) ?_)
    | fail)
   refine (HHOST.out _ (BW.out _ _ HBD6.out)).mono ?_
   rintro e w7 ⟨rfl, hb7⟩
   have HBD7 := h_ (HBD6.out.step hb7); clear hb7
   go_wp2_with fail
   refine (Hb.ws HO HBD7.out (by have := LL.out; simp; omega)).mono ?_
   rintro e w8 ⟨rfl, hbd⟩
   have HBD8 := h_ hbd; clear hbd
   have h8 := HBD8.out
   have e8 : [] ++ sch ++ [58] ++ [47, 47] ++ WH ++ HO = sch ++ [58] ++ [47, 47] ++ WH ++ HO := rfl
   rw [e8] at h8
   have c14 := HC14.out _ h8
   cases hasPort
   ·have hpo2 : PO = [] := hpo
    clear hpo
    subst hpo2
    go_wp2_with fail
    go_meet
    case rel =>
     show Hb w1 (sch ++ [58] ++ AH) _
     rw [HAH2.out]
     simp only [List.append_nil, List.append_assoc] at h8 ⊢
     exact h8
   ·have hpo2 : PO = [58] ++ IT := hpo
    have HPO2 := h_ hpo2; clear hpo hpo2
    have H8 := h_ h8; clear h8
    go_wp2_with fail
    refine (Hb.wb1 58 _ rfl H8.out (by have := LL.out; simp; omega)).mono ?_
    rintro e w9 ⟨rfl, hbd⟩
    have HBD9 := h_ hbd; clear hbd
    have c15 := HC15.out _ _ HBD9.out
    go_wp2_with fail
    refine (HITOA.out _ (BW.out _ _ HBD9.out)).mono ?_
    rintro e w10 ⟨rfl, hb10⟩
    have HBD10 := h_ (HBD9.out.step hb10); clear hb10
    go_wp2_with fail
    refine (Hb.ws IT HBD10.out (by have := LL.out; simp; omega)).mono ?_
    rintro e w11 ⟨rfl, hbd⟩
    have HBD11 := h_ hbd; clear hbd
    go_wp2_with fail
    go_meet
    case rel =>
     show Hb w1 (sch ++ [58] ++ AH) _
     rw [HAH2.out, HPO2.out]
     have h := HBD11.out
     simp only [List.append_assoc] at h ⊢
     exact h
 case rest =>
  have HA := hcut
  clear hcut
  clear HBD3 HBD2 c0 c3
  go_wp2_with (first
   | (refine wpList_load_mid rfl 30 _ rfl bx 0 rfl cs.toList _ (six_load 0 (fun i => by rw [Nat.zero_add]; exact CB.out _ _ HA.out i)) Tryz.underlying30 rfl (by rw [Array.length_toList, HSZ.out]; kernel_rfl) ?_)
   | fail)
  try rw [Array.toArray_toList]
  refine (HPATH.out _ (BW.out _ _ HA.out)).mono ?_
  rintro e w4 ⟨rfl, hb4⟩
  have HA2 := h_ (HA.out.step hb4); clear hb4
  go_wp2_with fail
  refine (Hb.ws PA HA2.out (by have := LL.out; simp; omega)).mono ?_
  rintro e w5 ⟨rfl, hbd⟩
  have HA3 := h_ hbd; clear hbd
  have c19 := (CB.out _ _ HA3.out 19).trans h19
  go_upto_if 50 with fail
  go_cut [] from 6 (fun wx => Hid (Hb w1 (sch ++ [58] ++ AH ++ PA ++ QU) wx))
  case first =>
   have hqf := HQF.out
   cases hasQ
   ·have hq2 : QU = [] := hqf
    subst hq2
    go_wp2_with fail
    go_meet
    case rel =>
     show Hb w1 (sch ++ [58] ++ AH ++ PA ++ []) _
     rw [List.append_nil]
     exact HA3.out
   ·have hq2 : QU = [63] ++ q := hqf
    have HQ2 := h_ hq2; clear hq2
    go_wp2_with fail
    refine (Hb.wb1 63 _ rfl HA3.out (by have := LL.out; simp; omega)).mono ?_
    rintro e w20 ⟨rfl, hbd⟩
    have HBD20 := h_ hbd; clear hbd
    have cq := (CB.out _ _ HBD20.out 20).trans h20
    go_wp2_with fail
    refine (Hb.ws q HBD20.out (by have := LL.out; simp; omega)).mono ?_
    rintro e w21 ⟨rfl, hbd⟩
    have HBD21 := h_ hbd; clear hbd
    go_wp2_with fail
    go_meet
    case rel =>
     show Hb w1 (sch ++ [58] ++ AH ++ PA ++ QU) _
     rw [HQ2.out]
     have h := HBD21.out
     simp only [List.append_assoc] at h ⊢
     exact h
  case rest =>
   have HB3 := hcut
   clear hcut c19
   have c21 := (CB.out _ _ HB3.out 21).trans h21
   have hff := HFF.out
   cases hasF <;> cases fr
   case true.true =>
    have hq2 : FR = [35] ++ f := hff
    have HQ2 := h_ hq2; clear hff hq2
    go_wp2_with fail
    refine (Hb.wb1 35 _ rfl HB3.out (by have := LL.out; simp; omega)).mono ?_
    rintro e w20 ⟨rfl, hbd⟩
    have HBD20 := h_ hbd; clear hbd
    have cq := (CB.out _ _ HBD20.out 22).trans h22
    go_wp2_with fail
    refine (Hb.ws f HBD20.out (by have := LL.out; simp; omega)).mono ?_
    rintro e w21 ⟨rfl, hbd⟩
    have HBD21 := h_ hbd; clear hbd
    go_wp2_with fail
    refine (Hb.str HBD21.out).mono ?_
    rintro e w30 ⟨rfl, hb30⟩
    have HB30 := h_ hb30; clear hb30
    go_wp2_with fail
    go_ret
    refine ⟨?_, HB.out.trans (HB30.out.mono HB.out.size)⟩
    rw [HSER.out, HQ2.out]
    simp only [List.append_assoc]
    rfl
   all_goals
    have hq2 : FR = [] := hff
    have HQ2 := h_ hq2; clear hff hq2
    go_wp2_with fail
    refine (Hb.str HB3.out).mono ?_
    rintro e w30 ⟨rfl, hb30⟩
    have HB30 := h_ hb30; clear hb30
    go_wp2_with fail
    go_ret
    refine ⟨?_, HB.out.trans (HB30.out.mono HB.out.size)⟩
    rw [HSER.out, HQ2.out]
    simp only [List.append_nil, List.append_assoc]
    rfl

def rfF (d : Bytes) (has : Bool) (u : Bytes) : Bytes := if has then d ++ [59, 32, 117, 114, 108, 61] ++ u else d
theorem rfw_any (d u : Bytes) (has : Bool) (w : World) (hd : d.length <= 1024000000) (hu : u.length <= 10240000000) :
  Calls Tryz.prog 86 #[.agg #[S d, .bool has, S u]] w fun e w' => e = .returned (S (rfF d has u)) ∧ Below w.heap.size w w' := by
 cases has
 all_goals
  go_enter Tryz.func86, Tryz.ntmps86
  go_wp2_with fail
  go_ret
  refine ⟨ret1_S ?_, (Below.refl _ _).alloc (Nat.le_refl _) _⟩
  simp [rfF, ls_app, ls_mk]
def fitsF (l : Bytes) : Bool := (l.all fun x => !blkF (b2 x)) && !l.isEmpty && !(Lib.hasPrefix l [44]) && !(Lib.hasSuffix l [44])
theorem fits_blank {l : Bytes} {k : Nat} (hk : k < l.length) (h : blkF (b2 l[k]) = true) : fitsF l = false := by
 have : (l.all fun x => !blkF (b2 x)) = false := by
  rw [List.all_eq_false]
  exact ⟨l[k], List.getElem_mem hk, by simp [h]⟩
 unfold fitsF
 rw [this]
 rfl
theorem all_of {l : Bytes} (h : ∀ k (hk : k < l.length), blkF (b2 l[k]) = false) : (l.all fun x => !blkF (b2 x)) = true := by
 rw [List.all_eq_true]
 intro x hx
 obtain ⟨k, hk, rfl⟩ := List.getElem_of_mem hx
 simp [h k hk]
theorem fits_any (u : Url) (cs : Array Value) (pv : Value) (w : World) (h : UrlAt cs pv u) (hp : Sl w.heap.size w pv (u.path.map S)) (hs : UrlSm u) (hE : NE w) :
  Calls Tryz.prog 40 #[.agg cs] w fun e w' => e = .returned (.bool (fitsF (serF u true))) ∧ Below w.heap.size w w' := by
 have hser := fun W (hW : Below w.heap.size w W) => swr_any u cs pv true W h ((hp.below hW).more hW.size) hs (hE.below hW)
 have hlen := serF_len u h.ok hs true
 have hsz := h.sz
 clear h hp hs hE
 generalize serF u true = T at hser hlen ⊢
 obtain ⟨s, hs⟩ := ex_ (bs T)
 have hszT : s.size = T.length := by rw [hs, bs_size]
 have hby : ∀ k (hk : k < s.size) (hk2 : k < T.length), ((s[k]'hk).toNat : Int) = b2 T[k] := fun k hk hk2 => str_at hs hk hk2
 have hpre : ∀ W, Calls Tryz.prog 84 #[.string s, .string ⟨#[44]⟩] W fun e w' => e = .returned (.bool (Lib.hasPrefix T [44])) ∧ w' = W := fun W => by
  have h := Any.strings_HasPrefix Tryz.laysHP s ⟨#[44]⟩ W
  rw [show s.data.toList = T by rw [hs]; exact ls_bs T] at h
  exact h
 have hsuf : ∀ W, Calls Tryz.prog 66 #[.string s, .string ⟨#[44]⟩] W fun e w' => e = .returned (.bool (Lib.hasSuffix T [44])) ∧ w' = W := fun W => by
  have h := Any.strings_HasSuffix Tryz.laysHS s ⟨#[44]⟩ W (by omega)
  rw [show s.data.toList = T by rw [hs]; exact ls_bs T] at h
  exact h
 obtain ⟨em, hem⟩ := ex_ (T.isEmpty)
 have hemp : (s.toList.isEmpty) = em := by rw [hs, toList_bs, hem]
 have hemp2 : (s.toList = []) ↔ em = true := by rw [hs, toList_bs, hem]; simp
 obtain ⟨hp, hhp⟩ := ex_ (Lib.hasPrefix T [44])
 obtain ⟨hx, hhx⟩ := ex_ (Lib.hasSuffix T [44])
 rw [<- hhp] at hpre
 rw [<- hhx] at hsuf
 dsimp only [S] at hser
 rw [<- hs] at hser
 clear hs
 obtain ⟨N, hN⟩ := ex_ (s.size)
 have hsN : s.size = N := hN.symm
 have hNm : N <= 5120000000 := by omega
 have HBY := h_ hby; clear hby
 have HSZT := h_ hszT; clear hszT hlen hN
 have HSER := h_ hser; clear hser
 have HSZ := h_ hsz; clear hsz
 have HEM := h_ hem; clear hem
 have HHP := h_ hhp; clear hhp
 have HHX := h_ hhx; clear hhx
 have HE1 := h_ hemp
 have HE2 := h_ hemp2
 clear hemp hemp2
 have HPRE := h_ hpre; clear hpre
 have HSUF := h_ hsuf; clear hsuf
 go_enter Tryz.func40, Tryz.ntmps40
 go_wp2_with (first
  | (refine boxed rfl _ _ rfl cs rfl ?_; intro bx w1 hb1 hb2 hb3 hb4 hb5; have HC := h_ hb4; have HB := h_ hb5; have HBX := h_ hb2; clear hb1 hb2 hb3 hb4 hb5)
  | (refine wpList_load_mid rfl 30 _ rfl bx 0 rfl cs.toList _ (six_load 0 (fun i => by rw [Nat.zero_add]; exact HC.out i)) Tryz.underlying30 rfl (by rw [Array.length_toList, HSZ.out]; kernel_rfl) ?_)
  | (go_at_call 39; try rw [Array.toArray_toList]; refine (HSER.out _ HB.out).mono ?_; rintro e1 w2 ⟨rfl, hb2⟩; have HB2 := h_ (HB.out.trans (hb2.mono HB.out.size)); clear hb2)
  | fail)
 go_loopw [4] (fun iv wr => ∃ k : Nat, k <= N ∧ iv = .int .i64 k ∧ Hid (∀ j (hj : j < T.length), j < k -> blkF (b2 T[j]) = false) ∧ w2 = wr) (fun i _ => N - (intOf i).toNat)
 case atStart => exact ⟨0, by omega, by simp, fun j _ h => absurd h (Nat.not_lt_zero j), rfl⟩
 case round =>
  obtain ⟨k, hk, rfl, hnb, rfl⟩ := hrel
  by_cases hlt : k < N
  ·have hku : k < s.size := by omega
   have hkl : k < T.length := by have := HSZT.out; omega
   have hby := HBY.out k hku hkl
   have hbl := fun W => blank_any (b2 T[k]) W
   have hrr := b2_lt T[k]
   cases hc : blkF (b2 T[k])
   ·rw [hc] at hbl
    have HNB := h_ (show ∀ j (hj : j < T.length), j < k + 1 -> blkF (b2 T[j]) = false from fun j hj h => by
     rcases Nat.lt_or_ge j k with h1 | h1
     ·exact hnb.out j hj h1
     ·obtain rfl : j = k := by omega
      exact hc)
    clear hc hnb
    generalize b2 T[k] = x at hby hbl hrr
    have HBL := h_ hbl; clear hbl
    go_wp2_with (first | (go_at_call 64; refine (HBL.out _).mono ?_; rintro e3 w3 ⟨rfl, hw3⟩; subst hw3) | fail)
    go_roundw
    case rel => exact ⟨k + 1, by omega, by simp, HNB.out, by trivial⟩
    case measure => simp [intOf]; omega
   ·rw [hc] at hbl
    have HF := h_ (fits_blank hkl hc)
    clear hc hnb
    generalize b2 T[k] = x at hby hbl hrr
    have HBL := h_ hbl; clear hbl
    go_wp2_with (first | (go_at_call 64; refine (HBL.out _).mono ?_; rintro e3 w3 ⟨rfl, hw3⟩; subst hw3) | fail)
    go_ret
    exact ⟨by rw [HF.out]; rfl, HB2.out⟩
  ·obtain rfl : k = N := by omega
   have hall : (T.all fun x => !blkF (b2 x)) = true := all_of fun j hj => hnb.out j hj (by have := HSZT.out; omega)
   have hfit : fitsF T = (!em && !hp && !hx) := by
    unfold fitsF
    rw [hall, <- HEM.out, <- HHP.out, <- HHX.out]
    rfl
   have HFIT := h_ hfit; clear hfit hall hnb
   have hemp := HE1.out
   have hemp2 := HE2.out
   cases em <;> cases hp <;> cases hx
   all_goals
    simp only [Bool.false_eq_true, iff_false, iff_true] at hemp2
    go_wp2_with (first
     | (go_at_call 84; refine (HPRE.out _).mono ?_; rintro e3 w3 ⟨rfl, hw3⟩; subst hw3)
     | (go_at_call 66; refine (HSUF.out _).mono ?_; rintro e4 w4 ⟨rfl, hw4⟩; subst hw4)
     | fail)
    go_ret
    exact ⟨by rw [HFIT.out]; rfl, HB2.out⟩
theorem pre1 (x : UInt8) (r : Bytes) : Lib.hasPrefix (x :: r) [44] = decide (b2 x = 44) := by
 have h3 : Lib.hasPrefix (x :: r) [44] = ((44 : UInt8) == x) := by simp [Lib.hasPrefix, List.isPrefixOf]
 rw [h3]
 by_cases h : x = 44
 ·subst h; rfl
 ·have h2 : ((44 : UInt8) == x) = false := by simpa using Ne.symm h
  rw [h2]
  symm
  apply decide_eq_false
  intro h1
  apply h
  apply UInt8.toNat_inj.mp
  have h4 : (x.toNat : Int) = 44 := h1
  have h5 : (44 : UInt8).toNat = 44 := rfl
  omega
theorem suf1 (x : UInt8) (r : Bytes) : Lib.hasSuffix (r ++ [x]) [44] = decide (b2 x = 44) := by
 have h := pre1 x r.reverse
 unfold Lib.hasSuffix List.isSuffixOf
 rw [List.reverse_append]
 exact h

theorem UrlFew.sm {u : Url} (h : UrlFew u) : UrlSm u := by
 have h1 := joinP_len u.path
 exact ⟨by have := h.sch; omega, by have := h.usr; omega, by have := h.pas; omega, by have := h.name; omega, by have := h.flat; omega, by have := h.path; have := h.tot; omega, by have := h.q; omega, by have := h.f; omega⟩
def RetF (G : Prop) (e : Ending) : Prop := ∃ b, e = .returned (.bool b) ∧ (b = true -> G)
theorem RetF.ff {G : Prop} : RetF G (.returned (.bool false)) := ⟨false, rfl, fun h => (by cases h)⟩
theorem RetF.of {G : Prop} {b : Bool} (h : b = true -> G) : RetF G (.returned (.bool b)) := ⟨b, rfl, h⟩

structure Itm where
 right : Bool
 url : Url
 words : List Bytes
def itmCells (pv wv : Value) (i : Itm) : List Value := .bool i.right :: (urlCells pv i.url ++ [wv])
def ItmAt (B : Nat) (w : World) (b o : Nat) (i : Itm) : Prop := ∃ pv wv, w.rangeAt b o (itmCells pv wv i) ∧ UrlOk i.url ∧ Sl B w pv (i.url.path.map S) ∧ Sl B w wv (i.words.map S)
def Items (B : Nat) (w : World) (v : Value) (l : List Itm) : Prop :=
 ∃ c, l.length <= c ∧ ((l = [] ∧ ∃ a, v = .slice a 0 c) ∨ ∃ b o, b < B ∧ v = .slice (some ⟨b, o, none⟩) l.length c ∧ ∀ k (hk : k < l.length), ItmAt B w b (o + k * 25) l[k])
theorem ItmAt.below {B b o : Nat} {w w' : World} {i : Itm} (h : ItmAt B w b o i) (hb : Below B w w') (hB : b < B) : ItmAt B w' b o i := by
 obtain ⟨pv, wv, h1, h2, h3, h4⟩ := h
 exact ⟨pv, wv, fun j v hj => (hb.cell (p := ⟨b, o + j, none⟩) hB).trans (h1 j v hj), h2, h3.below hb, h4.below hb⟩
theorem ItmAt.more {B B' b o : Nat} {w : World} {i : Itm} (h : ItmAt B w b o i) (hB : B <= B') : ItmAt B' w b o i := by
 obtain ⟨pv, wv, h1, h2, h3, h4⟩ := h
 exact ⟨pv, wv, h1, h2, h3.more hB, h4.more hB⟩
theorem Items.below {B : Nat} {w w' : World} {v : Value} {l : List Itm} (h : Items B w v l) (hb : Below B w w') : Items B w' v l := by
 obtain ⟨c, hc, h⟩ := h
 refine ⟨c, hc, ?_⟩
 rcases h with h | ⟨b, o, hB, hv, ha⟩
 ·exact .inl h
 ·exact .inr ⟨b, o, hB, hv, fun k hk => (ha k hk).below hb hB⟩
theorem Items.more {B B' : Nat} {w : World} {v : Value} {l : List Itm} (h : Items B w v l) (hB : B <= B') : Items B' w v l := by
 obtain ⟨c, hc, h⟩ := h
 refine ⟨c, hc, ?_⟩
 rcases h with h | ⟨b, o, hb, hv, ha⟩
 ·exact .inl h
 ·exact .inr ⟨b, o, by omega, hv, fun k hk => (ha k hk).more hB⟩
theorem items_val {B : Nat} {w : World} {v : Value} {l : List Itm} (h : Items B w v l) : ∃ a c, v = .slice a l.length c := by
 obtain ⟨c, hc, h⟩ := h
 rcases h with ⟨rfl, a, rfl⟩ | ⟨b, o, _, rfl, _⟩
 ·exact ⟨a, c, rfl⟩
 ·exact ⟨_, c, rfl⟩
theorem items_at {B : Nat} {w : World} {a : Option Addr} {n c : Nat} {l : List Itm} (h : Items B w (.slice a n c) l) (k : Nat) (hk : k < l.length) :
  ∃ b o, a = some ⟨b, o, none⟩ ∧ b < B ∧ ItmAt B w b (o + k * 25) l[k] := by
 obtain ⟨c', _, h⟩ := h
 rcases h with ⟨rfl, _⟩ | ⟨b, o, hb, hv, ha⟩
 ·simp at hk
 ·injection hv with h1 h2 h3
  exact ⟨b, o, h1, hb, ha k hk⟩
theorem urlCells_len (pv : Value) (u : Url) (ok : UrlOk u) : (urlCells pv u).length = 23 := by
 simp [urlCells, hstCells, ok.h.l]
theorem itmCells_len (pv wv : Value) (i : Itm) (ok : UrlOk i.url) : (itmCells pv wv i).length = 25 := by
 simp [itmCells, urlCells_len pv i.url ok]
theorem itm_url {w : World} {b o : Nat} {pv wv : Value} {i : Itm} (h : w.rangeAt b o (itmCells pv wv i)) : w.rangeAt b (o + 1) (urlCells pv i.url) := by
 intro j v hj
 have := h (j + 1) v (by
  have hl := (List.getElem?_eq_some_iff.1 hj).1
  unfold itmCells
  rw [List.getElem?_cons_succ, List.getElem?_append_left hl]
  exact hj)
 rw [show o + 1 + j = o + (j + 1) by omega]
 exact this
theorem itm_words {w : World} {b o : Nat} {pv wv : Value} {i : Itm} (ok : UrlOk i.url) (h : w.rangeAt b o (itmCells pv wv i)) : w.cell? ⟨b, o + 24, none⟩ = some wv := by
 refine h 24 wv ?_
 unfold itmCells
 rw [List.getElem?_cons_succ, List.getElem?_append_right (by rw [urlCells_len pv i.url ok]; omega), urlCells_len pv i.url ok]
 rfl
theorem cells_one (pv wv : Value) (i : Itm) (hp : pv.oneCell' = true) (hw : wv.oneCell' = true) : (itmCells pv wv i).toArray.all (·.oneCell') = true := by
 refine all_oneCell_toArray fun v hv => ?_
 simp only [itmCells, urlCells, hstCells, List.mem_cons, List.mem_append, List.mem_map, List.not_mem_nil, or_false] at hv
 rcases hv with rfl | ((((rfl | rfl | rfl) | (rfl | rfl | rfl | ⟨n, _, rfl⟩)) | h) | rfl)
 all_goals first | rfl | assumption | skip
 rcases h with rfl | rfl | rfl | rfl | rfl | rfl | rfl | rfl | rfl
 all_goals first | rfl | assumption
theorem sl_oneE {B : Nat} {w : World} {v : Value} {xs : List Value} (h : Sl B w v xs) : v.oneCell' = true := by
 obtain ⟨a, c, rfl⟩ := slice_val h
 rfl
def ZI : Array Value := #[.bool false, .string ⟨#[]⟩, .string ⟨#[]⟩, .string ⟨#[]⟩, .int .i64 0, .string ⟨#[]⟩, .int .u32 0, .int .u16 0, .int .u16 0, .int .u16 0, .int .u16 0, .int .u16 0, .int .u16 0, .int .u16 0, .int .u16 0, .bool false, .int .i64 0, .bool false, .string ⟨#[]⟩, .slice none 0 0, .bool false, .string ⟨#[]⟩, .bool false, .string ⟨#[]⟩, .slice none 0 0]
theorem allI (w : World) : (Instr.alloc 56 true (Value.tuple #[])).run Tryz.prog w = .ok (.pointer (some ⟨w.heap.size, 0, none⟩)) (w.alloc (.cells ZI 56)) := by kernel_rfl
def Kb (nb : Nat) (C : Array Value) (w : World) : Prop := w.heap[nb]? = some (.cells C 56 (0, 0))
theorem Kb.cell {nb : Nat} {C : Array Value} {w : World} (h : Kb nb C w) (i : Nat) : w.cell? ⟨nb, i, none⟩ = C[i]? := Go.Joins.cell_of_block h i
theorem Kb.below {nb : Nat} {C : Array Value} {w w' : World} (h : Kb nb C w) (hb : Below w.heap.size w w') : Kb nb C w' := by
 have hlt : nb < w.heap.size := by
  rcases Nat.lt_or_ge nb w.heap.size with hlt | hge
  ·exact hlt
  ·unfold Kb at h; rw [Array.getElem?_eq_none hge] at h; cases h
 exact (hb.block nb hlt).trans h
theorem Kb.fr {nb : Nat} {C : Array Value} {w w' : World} {b : Nat} {g : Option Nat} {l : Bytes} (h : Kb nb C w) (hB : Bld b g l w) (hf : Fr (fun k => k = b ∨ g = some k) w w') : Kb nb C w' := by
 have hlt : nb < w.heap.size := by
  rcases Nat.lt_or_ge nb w.heap.size with hlt | hge
  ·exact hlt
  ·unfold Kb at h; rw [Array.getElem?_eq_none hge] at h; cases h
 refine (hf.block nb hlt ?_).trans h
 have key : ∀ p, BldP p b g l w -> ¬ (nb = b ∨ g = some nb) := by
  rintro p ⟨v, hb, ho, hg⟩ hx
  unfold Kb at h
  rcases hx with rfl | hx
  ·rw [hb] at h
   injection h with h
   injection h with _ h
   revert h; decide
  ·rcases ho.2 with ⟨rfl, _⟩ | ⟨g', cap, cur, rfl, _, hg', _⟩
   ·rw [<- hg] at hx; cases hx
   ·have e : g' = nb := by rw [<- hg] at hx; injection hx
    rw [e] at hg'
    rw [hg'] at h
    injection h with h
    injection h with _ h
    revert h; decide
 rcases hB with hB | hB
 ·exact key _ hB
 ·exact key _ hB
theorem Hb.ws2 {wb w : World} {l : Bytes} {nb : Nat} {C : Array Value} (m : Bytes) (h : Hb wb l w) (hk : Kb nb C w) (hlen : l.length + m.length <= 1099511627776) :
  Calls Tryz.prog 75 #[.pointer (some ⟨wb.heap.size, 0, none⟩), S m] w fun e w' => e = .returned (.tuple #[.int .i64 m.length, .nilIface]) ∧ Hb wb (l ++ m) w' ∧ Kb nb C w' := by
 obtain ⟨g, h1, h2⟩ := h.bld
 refine (writeString_any m h1 hlen).mono ?_
 rintro e w' ⟨rfl, hr⟩
 refine ⟨rfl, Hb.of_ret h2 h.bel hr, ?_⟩
 obtain ⟨_, _, _, hf⟩ := hr
 exact hk.fr h1 hf
theorem Hb.wb2 {wb w : World} {l : Bytes} {nb : Nat} {C : Array Value} (m : UInt8) (n : Int) (hn : n = b2 m) (h : Hb wb l w) (hk : Kb nb C w) (hlen : l.length + 1 <= 1099511627776) :
  Calls Tryz.prog 55 #[.pointer (some ⟨wb.heap.size, 0, none⟩), .int .u8 n] w fun e w' => e = .returned .nilIface ∧ Hb wb (l ++ [m]) w' ∧ Kb nb C w' := by
 subst hn
 obtain ⟨g, h1, h2⟩ := h.bld
 refine (writeByte_any m h1 hlen).mono ?_
 rintro e w' ⟨rfl, hr⟩
 refine ⟨rfl, Hb.of_ret h2 h.bel hr, ?_⟩
 obtain ⟨_, _, _, hf⟩ := hr
 exact hk.fr h1 hf
structure ItmSm (i : Itm) : Prop where
 url : UrlSm i.url
 n : i.words.length <= 10
 w : ∀ x ∈ i.words, x.length <= 100
def wordsF (l : List Bytes) : Bytes := l.flatMap fun x => [32] ++ x
def itemF (i : Itm) : Bytes := serF i.url true ++ wordsF i.words
def listF : List Itm -> Bytes
 | [] => []
 | x :: r => itemF x ++ r.flatMap fun y => [44, 32] ++ itemF y
theorem wordsF_take (l : List Bytes) (k : Nat) (hk : k < l.length) : wordsF (l.take (k + 1)) = wordsF (l.take k) ++ [32] ++ l[k] := by
 unfold wordsF
 rw [List.take_succ_eq_append_getElem hk, List.flatMap_append, List.flatMap_cons, List.flatMap_nil, List.append_nil, List.append_assoc]
theorem wordsF_len : ∀ (l : List Bytes), (∀ x ∈ l, x.length <= 100) -> (wordsF l).length <= 101 * l.length
 | [], _ => by simp [wordsF]
 | x :: l, h => by
  have h1 := wordsF_len l (fun y hy => h y (List.mem_cons_of_mem _ hy))
  have h2 := h x List.mem_cons_self
  simp only [wordsF, List.flatMap_cons, List.length_append, List.length_cons, List.length_nil] at h1 ⊢
  omega
theorem itemF_len (i : Itm) (ok : UrlOk i.url) (h : ItmSm i) : (itemF i).length <= 5120002000 := by
 have h1 := serF_len i.url ok h.url true
 have h2 := wordsF_len i.words h.w
 have h3 := h.n
 unfold itemF
 rw [List.length_append]
 omega
theorem listF_take (l : List Itm) (k : Nat) (hk : k < l.length) : listF (l.take (k + 1)) = listF (l.take k) ++ (if k = 0 then [] else [44, 32]) ++ itemF l[k] := by
 cases l with
 | nil => simp at hk
 | cons x r =>
  cases k with
  | zero => simp [listF]
  | succ k =>
   have hk' : k < r.length := by simpa using hk
   rw [List.take_succ_cons, List.take_succ_cons, if_neg (by omega)]
   simp only [listF, List.getElem_cons_succ]
   rw [List.take_succ_eq_append_getElem hk', List.flatMap_append, List.flatMap_cons, List.flatMap_nil, List.append_nil]
   simp only [List.append_assoc]

theorem listF_len : ∀ (l : List Itm), (∀ i ∈ l, UrlOk i.url) -> (∀ i ∈ l, ItmSm i) -> (listF l).length <= 5122050048 * l.length
 | [], _, _ => by simp [listF]
 | x :: r, h1, h2 => by
  have hr : ∀ (r : List Itm), (∀ i ∈ r, UrlOk i.url) -> (∀ i ∈ r, ItmSm i) -> (r.flatMap fun y => [44, 32] ++ itemF y).length <= 5122050048 * r.length := by
   intro r
   induction r with
   | nil => simp
   | cons y r ih =>
    intro h1 h2
    have h3 := ih (fun i hi => h1 i (List.mem_cons_of_mem _ hi)) (fun i hi => h2 i (List.mem_cons_of_mem _ hi))
    have h4 := itemF_len y (h1 y List.mem_cons_self) (h2 y List.mem_cons_self)
    simp only [List.flatMap_cons, List.length_append, List.length_cons, List.length_nil] at h3 ⊢
    omega
  have h3 := hr r (fun i hi => h1 i (List.mem_cons_of_mem _ hi)) (fun i hi => h2 i (List.mem_cons_of_mem _ hi))
  have h4 := itemF_len x (h1 x List.mem_cons_self) (h2 x List.mem_cons_self)
  simp only [listF, List.length_append, List.length_cons]
  omega
theorem items_ok {B : Nat} {w : World} {v : Value} {l : List Itm} (h : Items B w v l) : ∀ i ∈ l, UrlOk i.url := by
 intro i hi
 obtain ⟨k, hk, rfl⟩ := List.getElem_of_mem hi
 obtain ⟨a, c, rfl⟩ := items_val h
 obtain ⟨b, o, _, _, ⟨_, _, _, h2, _, _⟩⟩ := items_at h k hk
 exact h2
theorem storeI {ops : Array Oper} {rest : List Oper} {o : Oper} {a : Act} {w : World} {Q : Exit -> Act -> World -> Prop} (hgd : o.guard = none) (x y : Operand) (ho : o.op = .store 56 x y) (pv wv : Value) (it : Itm)
  (hx : a.eval x = .pointer (some ⟨w.heap.size, 0, none⟩)) (hy : a.eval y = .agg (itmCells pv wv it).toArray) (ok : UrlOk it.url) (h1 : (itmCells pv wv it).toArray.all (·.oneCell') = true)
  (h : wpList Tryz.prog ops Q rest (a.put o.dst undef) (w.alloc (.cells (itmCells pv wv it).toArray 56))) : wpList Tryz.prog ops Q (o :: rest) a (w.alloc (.cells ZI 56)) := by
 have hl := itmCells_len pv wv it ok
 exact store_new hgd 56 x y ho (itmCells pv wv it).toArray ZI 56 hx hy (by rw [List.size_toArray, hl]; kernel_rfl) (by rw [show (itmCells pv wv it).toArray.size = 25 by rw [List.size_toArray, hl]]; rfl) h1 h
theorem kb_url {nb : Nat} {pv wv : Value} {it : Itm} {w : World} (h : Kb nb (itmCells pv wv it).toArray w) : w.rangeAt nb 1 (urlCells pv it.url) := by
 have h0 : w.rangeAt nb 0 (itmCells pv wv it) := fun j v hj => by
  rw [Nat.zero_add, h.cell j, List.getElem?_toArray]; exact hj
 exact itm_url h0
theorem kb_words {nb : Nat} {pv wv : Value} {it : Itm} {w : World} (ok : UrlOk it.url) (h : Kb nb (itmCells pv wv it).toArray w) : w.cell? ⟨nb, 24, none⟩ = some wv := by
 have h0 : w.rangeAt nb 0 (itmCells pv wv it) := fun j v hj => by
  rw [Nat.zero_add, h.cell j, List.getElem?_toArray]; exact hj
 have := itm_words ok h0
 rw [Nat.zero_add] at this
 exact this
theorem elist_any (l : List Itm) (v : Value) (w : World) (h : Items w.heap.size w v l) (hs : ∀ i ∈ l, ItmSm i) (hn : l.length <= 20) (hE : NE w) :
  Calls Tryz.prog 85 #[v] w fun e w' => e = .returned (S (listF l)) ∧ Below w.heap.size w w' := by
 have hok := items_ok h
 obtain ⟨av, cc, hv⟩ := items_val h
 subst hv
 obtain ⟨N, hN⟩ := ex_ (l.length)
 have hNm : N <= 20 := by omega
 have hll := listF_len l hok hs
 have hlk : ∀ k, (listF (l.take k)).length <= 5122050048 * 20 := by
  intro k
  have h1 := listF_len (l.take k) (fun i hi => hok i (List.mem_of_mem_take hi)) (fun i hi => hs i (List.mem_of_mem_take hi))
  have : (l.take k).length <= 20 := by rw [List.length_take]; omega
  omega
 rw [<- hN] at h ⊢
 have HI := h_ h
 have HS := h_ hs
 have HOK := h_ hok
 have HN := h_ hN
 have HLK := h_ hlk
 have HE := h_ hE
 clear h hs hok hN hlk hE hn hll
 go_enter Tryz.func85, Tryz.ntmps85
 go_wp2_with fail
 go_loopw [10] (fun iv wr => ∃ k : Nat, k <= N ∧ iv = .int .i64 k ∧ Hid (Hb w (listF (l.take k)) wr)) (fun i _ => N - (intOf i).toNat)
 case atStart => exact ⟨0, by omega, by simp, Hb.fresh w⟩
 case round =>
  obtain ⟨k, hk, rfl, hbd⟩ := hrel
  by_cases hlt : k < N
  ·have hkl : k < l.length := by rw [<- HN.out]; exact hlt
   have hlti : (k : Int) < N := by omega
   obtain ⟨b, o, rfl, hbb, hat⟩ := items_at HI.out k hkl
   obtain ⟨pv, wv, hrg, hok, hpv, hwv⟩ := hat
   have hsm := HS.out _ (List.getElem_mem hkl)
   have htk := listF_take l k hkl
   have hl0 := HLK.out k
   have hl1 := HLK.out (k + 1)
   generalize l[k] = it at hrg hok hpv hwv hsm htk
   generalize listF (l.take k) = T at hbd htk hl0
   have hL : T.length + 2 + (itemF it).length <= 5122050048 * 21 := by
    have := itemF_len it hok hsm
    omega
   have hcl := itmCells_len pv wv it hok
   have hone := cells_one pv wv it (sl_oneE hpv) (sl_oneE hwv)
   have hau : UrlAt (urlCells pv it.url).toArray pv it.url := urlAt_of pv hok
   have huc := urlCells_len pv it.url hok
   have hser := fun (W : World) (hW : Below w.heap.size w W) (hp : Sl W.heap.size W pv (it.url.path.map S)) => swr_any it.url _ pv true W hau hp hsm.url (HE.out.below hW)
   have hrgw : World.rangeAt _ b (o + k * 25) (itmCells pv wv it) := fun j v hj => (hbd.out.bel.cell (p := ⟨b, o + k * 25 + j, none⟩) hbb).trans (hrg j v hj)
   have HRG := h_ hrgw
   clear hrgw
   have HOKI := h_ hok
   have HPV := h_ hpv
   have HWV := h_ hwv
   have HSM := h_ hsm
   have HTK := h_ htk
   have HLL := h_ hL
   have HCL := h_ hcl
   have HONE := h_ hone
   have HUC := h_ huc
   have HSER := h_ hser
   clear hrg hok hpv hwv hsm htk hL hcl hone huc hser hau hl0 hl1 hlt
   go_upto_region 5 with (first
    | (refine wpList_load_mid rfl 56 _ rfl b (o + k * 25) rfl (itmCells pv wv it) _ HRG.out Tryz.underlying56 rfl (by rw [HCL.out]; kernel_rfl) ?_)
    | (refine alloc_to rfl 56 rfl _ _ (allI _) ?_)
    | (refine storeI rfl (.tmp 5) (.tmp 14) rfl pv wv it rfl rfl HOKI.out HONE.out ?_)
    | fail)
   have hk2 : Kb wr.heap.size (itmCells pv wv it).toArray (wr.alloc (.cells (itmCells pv wv it).toArray 56)) := heap_alloc_new wr _
   have hb2 : Hb w T (wr.alloc (.cells (itmCells pv wv it).toArray 56)) := hbd.out.step ((Below.refl _ _).alloc (Nat.le_refl _) _)
   generalize wr.heap.size = nb at hk2 hb2 ⊢
   generalize wr.alloc (.cells (itmCells pv wv it).toArray 56) = w2 at hk2 hb2 ⊢
   clear hbd HRG
   obtain ⟨wa, wc, hwv⟩ := slice_val HWV.out
   rw [List.length_map] at hwv
   obtain ⟨M, hM⟩ := ex_ (it.words.length)
   rw [<- hM] at hwv
   have HM := h_ hM; clear hM
   have hMm : M <= 10 := by have := HM.out; have := HSM.out.n; omega
   have hifl := serF_len it.url HOKI.out HSM.out.url true
   have hwfl : ∀ j, (wordsF (it.words.take j)).length <= 1010 := by
    intro j
    have h1 := wordsF_len (it.words.take j) (fun x hx => HSM.out.w x (List.mem_of_mem_take hx))
    have h2 : (it.words.take j).length <= 10 := by rw [List.length_take]; have := HSM.out.n; omega
    omega
   have HWFL := h_ hwfl; clear hwfl
   have hif : itemF it = serF it.url true ++ wordsF it.words := rfl
   have HIF := h_ hif; clear hif
   have hTl : T.length + 2 <= 5122050048 * 21 := by have := HLL.out; omega
   have hsep : k = 0 ∨ (0 : Int) < k := by omega
   rcases hsep with hk0 | hk0
   all_goals first
    | (skip
       have htk := HTK.out
       rw [if_pos hk0, List.append_nil] at htk
       have hk0i : ¬ (0 : Int) < k := by omega
       clear hk0
       obtain ⟨T1, hT1⟩ := ex_ (T)
       rw [<- hT1] at htk hb2
       have hT1l : T1.length <= 5122050048 * 21 := by rw [hT1]; omega
       have HB3 := h_ hb2
       have HK3 := h_ hk2
       have HTK1 := h_ htk
       clear hT1 hb2 hk2 htk HTK
       obtain ⟨w3, hw3⟩ := ex_ (w2)
       rw [<- hw3] at HB3 HK3 ⊢
       clear hw3
       go_upto_region 7 with fail)
    | (skip
       have htk := HTK.out
       rw [if_neg (by omega)] at htk
       obtain ⟨T1, hT1⟩ := ex_ (T ++ [44, 32])
       rw [<- hT1] at htk
       have hT1l : T1.length <= 5122050048 * 21 := by rw [hT1, List.length_append]; simp; omega
       have HT1 := h_ hT1
       have HB2 := h_ hb2
       have HK2 := h_ hk2
       have HTK1 := h_ htk
       clear hT1 hb2 hk2 htk HTK
       go_upto_region 7 with (first
        | (go_at_call 75; refine (Hb.ws2 [44, 32] HB2.out HK2.out (by simp; omega)).mono ?_; rintro e w3 ⟨rfl, hb3, hk3⟩; have HB3 := h_ (HT1.out ▸ hb3); have HK3 := h_ hk3; clear hb3 hk3)
        | fail))
   all_goals
    generalize serF it.url true = SE at HSER HIF hifl
    go_wp2_with (first
     | (refine wpList_load_mid rfl 30 _ rfl nb 1 rfl (urlCells pv it.url) _ (kb_url HK3.out) Tryz.underlying30 rfl (by rw [HUC.out]; kernel_rfl) ?_)
     | (go_at_call 39; refine (HSER.out _ HB3.out.bel ((HPV.out.below HB3.out.bel).more HB3.out.bel.size)).mono ?_; rintro e w4 ⟨rfl, hb4⟩; have HB4 := h_ (HB3.out.step hb4); have HK4 := h_ (HK3.out.below hb4); clear hb4)
     | (go_at_call 75; refine (Hb.ws2 SE HB4.out HK4.out (by omega)).mono ?_; rintro e w5 ⟨rfl, hb5, hk5⟩; have cw := (kb_words HOKI.out hk5).trans (congrArg some hwv); have HB5 := h_ hb5; have HK5 := h_ hk5; clear hb5 hk5)
     | fail)
    have HWVE := h_ hwv; clear hwv cw
    go_loopw [25] (fun jv wr => ∃ j : Nat, j <= M ∧ jv = .int .i64 j ∧ Hid (Hb w (T1 ++ SE ++ wordsF (it.words.take j)) wr) ∧ Hid (Kb nb (itmCells pv wv it).toArray wr)) (fun j _ => M - (intOf j).toNat)
    case atStart => exact ⟨0, by omega, by simp, (by have := HB5.out; show Hb w (T1 ++ SE ++ wordsF []) _; rw [show wordsF [] = [] from rfl, List.append_nil]; exact this), HK5.out⟩
    case round =>
     obtain ⟨j, hj, rfl, hbj, hkj⟩ := hrel
     by_cases hjl : j < M
     ·have hjw : j < it.words.length := by rw [<- HM.out]; exact hjl
      have hwvs := HWV.out.below hbj.out.bel
      rw [HWVE.out] at hwvs
      obtain ⟨wb, wo, rfl, hwb, hwc⟩ := strs_at hwvs j hjw
      have hwt := wordsF_take it.words j hjw
      have hwl := HSM.out.w _ (List.getElem_mem hjw)
      have hf1 := HWFL.out j
      generalize it.words[j] = word at hwc hwt hwl
      generalize wordsF (it.words.take j) = U at hbj hwt hf1
      have HWT := h_ hwt; clear hwt hwvs
      have hLn : (T1 ++ SE ++ U).length <= 5122050048 * 21 + 5120000000 + 1010 := by rw [List.length_append, List.length_append]; omega
      go_wp2_with (first
       | (go_at_call 55; refine (Hb.wb2 32 _ rfl hbj.out hkj.out (by omega)).mono ?_; rintro e w6 ⟨rfl, hb6, hk6⟩; have HB6 := h_ hb6; have HK6 := h_ hk6; clear hb6 hk6)
       | (go_at_call 75; refine (Hb.ws2 word HB6.out HK6.out (by rw [List.length_append]; simp only [List.length_cons, List.length_nil]; omega)).mono ?_; rintro e w7 ⟨rfl, hb7, hk7⟩; have HB7 := h_ hb7; have HK7 := h_ hk7; clear hb7 hk7)
       | fail)
      have h7 : Hb w (T1 ++ SE ++ wordsF (it.words.take (j + 1))) w7 := by
       have h := HB7.out
       rw [HWT.out]
       simp only [List.append_assoc] at h ⊢
       exact h
      have H7 := h_ h7; clear h7
      go_roundw
      case rel =>
       first
        | exact ⟨j + 1, by omega, by simp, H7.out, HK7.out⟩
        | ((repeat apply Exists.intro); exact ⟨⟨j + 1, by omega, by simp, H7.out, HK7.out⟩, rfl⟩)
      case measure => simp [intOf]; omega
     ·obtain rfl : j = M := by omega
      have hU : T1 ++ SE ++ wordsF (it.words.take j) = listF (l.take (k + 1)) := by
       rw [HM.out, List.take_length, HTK1.out, HIF.out, List.append_assoc]
      have HU := h_ (hU ▸ hbj.out); clear hU hbj
      go_wp2_with fail
      go_roundw
      case rel =>
       first
        | exact ⟨k + 1, by omega, by simp, HU.out⟩
        | ((repeat apply Exists.intro); exact ⟨⟨k + 1, by omega, by simp, HU.out⟩, rfl⟩)
      case measure => simp [intOf]; omega
  ·obtain rfl : k = N := by omega
   go_wp2_with (first | (go_at_call 56; refine (Hb.str hbd.out).mono ?_; rintro e w2 ⟨rfl, hb2⟩; have HB2 := h_ hb2; clear hb2) | fail)
   go_ret
   refine ⟨?_, HB2.out⟩
   rw [HN.out, List.take_length]; rfl

def firstF (l : List Itm) : Bytes := match l with | [] => [] | i :: _ => serF i.url true
def bodyF (k : Int) (l : List Itm) (d : Bytes) : Bytes := if k = 1 then firstF l else if k = 2 then listF l else if k = 3 then rfF d true (firstF l) else []
def writeF (k : Int) (l : List Itm) (d : Bytes) : Bytes := if l = [] then [] else escB (bodyF k l d)
theorem escB_nil : escB [] = [] := rfl
theorem ewrite_any (kind : Int) (l : List Itm) (v : Value) (d : Bytes) (w : World) (h : Items w.heap.size w v l) (hs : ∀ i ∈ l, ItmSm i) (hn : l.length <= 20) (hd : d.length <= 1000) (hE : NE w) :
  Calls Tryz.prog 41 #[.int .i64 kind, .agg #[v, S d]] w fun e w' => e = .returned (S (writeF kind l d)) ∧ Below w.heap.size w w' := by
 have hok := items_ok h
 have hlist := fun (W : World) (hW : Below w.heap.size w W) => elist_any l v W ((h.below hW).more hW.size) hs hn (hE.below hW)
 have hesc := fun (x : Bytes) (W : World) (hx : x.length <= 200000000000) => escape_any x W hx
 have hll := listF_len l hok hs
 obtain ⟨av, cc, hv⟩ := items_val h
 subst hv
 have HLIST := h_ hlist; clear hlist
 have HESC := h_ hesc; clear hesc
 cases l with
 | nil =>
  go_enter Tryz.func41, Tryz.ntmps41
  go_wp2_with fail
  go_ret
  exact ⟨rfl, (Below.refl _ _).alloc (Nat.le_refl _) _⟩
 | cons it r =>
  obtain ⟨b, o, rfl, hbb, hat⟩ := items_at h 0 (by simp)
  simp only [List.getElem_cons_zero, Nat.zero_mul, Nat.add_zero] at hat
  obtain ⟨pv, wv, hrg, hoki, hpv, hwv⟩ := hat
  have hsm := hs it List.mem_cons_self
  have hau : UrlAt (urlCells pv it.url).toArray pv it.url := urlAt_of pv hoki
  have huc := urlCells_len pv it.url hoki
  have hser := fun (W : World) (hW : Below w.heap.size w W) => swr_any it.url _ pv true W hau ((hpv.below hW).more hW.size) hsm.url (hE.below hW)
  have hsl := serF_len it.url hoki hsm.url true
  have hrgu : ∀ W, Below w.heap.size w W -> W.rangeAt b (o + 1) (urlCells pv it.url) := fun W hW j v hj => (hW.cell (p := ⟨b, o + 1 + j, none⟩) hbb).trans (itm_url hrg j v hj)
  have hw : writeF kind (it :: r) d = escB (bodyF kind (it :: r) d) := rfl
  have hbd : bodyF kind (it :: r) d = if kind = 1 then serF it.url true else if kind = 2 then listF (it :: r) else if kind = 3 then rfF d true (serF it.url true) else [] := rfl
  obtain ⟨N, hN⟩ := ex_ ((it :: r).length)
  have hN0 : (0 : Int) < N := by rw [hN, List.length_cons]; omega
  have hN1 : ¬ (N : Int) = 0 := by omega
  rw [<- hN] at hll HLIST ⊢
  have hll2 : (listF (it :: r)).length <= 200000000000 := by omega
  have hrl : (rfF d true (serF it.url true)).length <= 200000000000 := by
   simp only [rfF, if_true, List.length_append, List.length_cons, List.length_nil]; omega
  generalize listF (it :: r) = LI at *
  generalize writeF kind (it :: r) d = WR at *
  generalize bodyF kind (it :: r) d = BO at *
  generalize serF it.url true = SE at *
  have hrf := fun W => rfw_any d SE true W (by omega) (by omega)
  generalize rfF d true SE = RF at *
  have HSER := h_ hser
  have HRG := h_ hrgu
  have HUC := h_ huc
  have HRF := h_ hrf
  have HW := h_ hw
  have HBD := h_ hbd
  clear hser hrgu huc hrf hw hbd h hs hn hE hok hrg hoki hpv hwv hsm hau hN hll
  have hbel : ∀ o, Below w.heap.size w (w.alloc o) := fun o => (Below.refl w.heap.size w).alloc (Nat.le_refl _) o
  have HBEL := h_ hbel; clear hbel
  by_cases k1 : kind = 1
  ·have hbd := HBD.out
   rw [if_pos k1] at hbd
   have hw := HW.out
   rw [hbd] at hw
   have HW2 := h_ hw
   clear hbd hw
   go_enter Tryz.func41, Tryz.ntmps41
   go_wp2_with (first
    | (refine wpList_load_mid rfl 30 _ rfl b (o + 1) rfl (urlCells pv it.url) _ (HRG.out _ (HBEL.out _)) Tryz.underlying30 rfl (by rw [HUC.out]; kernel_rfl) ?_)
    | (go_at_call 39; refine (HSER.out _ (HBEL.out _)).mono ?_; rintro e w2 ⟨rfl, hb2⟩; have HB2 := h_ ((HBEL.out _).trans (hb2.mono (HBEL.out _).size)); clear hb2)
    | (go_at_call 36; refine (HESC.out SE _ (by omega)).mono ?_; rintro e w3 ⟨rfl, hb3⟩; have HB3 := h_ (HB2.out.trans (hb3.mono HB2.out.size)); clear hb3)
    | fail)
   go_ret
   exact ⟨by rw [HW2.out]; rfl, HB3.out⟩
  by_cases k2 : kind = 2
  ·have hbd := HBD.out
   rw [if_neg k1, if_pos k2] at hbd
   have hw := HW.out
   rw [hbd] at hw
   have HW2 := h_ hw
   clear hbd hw
   go_enter Tryz.func41, Tryz.ntmps41
   go_wp2_with (first
    | (go_at_call 85; refine (HLIST.out _ (HBEL.out _)).mono ?_; rintro e w2 ⟨rfl, hb2⟩; have HB2 := h_ ((HBEL.out _).trans (hb2.mono (HBEL.out _).size)); clear hb2)
    | (go_at_call 36; refine (HESC.out LI _ hll2).mono ?_; rintro e w3 ⟨rfl, hb3⟩; have HB3 := h_ (HB2.out.trans (hb3.mono HB2.out.size)); clear hb3)
    | fail)
   go_ret
   exact ⟨by rw [HW2.out]; rfl, HB3.out⟩
  by_cases k3 : kind = 3
  ·have hbd := HBD.out
   rw [if_neg k1, if_neg k2, if_pos k3] at hbd
   have hw := HW.out
   rw [hbd] at hw
   have HW2 := h_ hw
   have hcd : ∀ W, Below (w.heap.size + 1) (w.alloc (.cells #[.slice (some ⟨b, o, none⟩) N cc, S d] 51)) W -> W.cell? ⟨w.heap.size, 1, none⟩ = some (S d) := fun W hW => by
    rw [hW.cell (p := ⟨w.heap.size, 1, none⟩) (by simp)]
    rw [World.cell?_alloc_mark]; rfl
   have HCD := h_ hcd
   clear hbd hw hcd
   go_enter Tryz.func41, Tryz.ntmps41
   go_wp2_with (first
    | (refine wpList_load_mid rfl 30 _ rfl b (o + 1) rfl (urlCells pv it.url) _ (HRG.out _ (HBEL.out _)) Tryz.underlying30 rfl (by rw [HUC.out]; kernel_rfl) ?_)
    | (go_at_call 39; refine (HSER.out _ (HBEL.out _)).mono ?_; rintro e w2 ⟨rfl, hb2⟩; have c1 := HCD.out _ (hb2.mono (by simp)); have HB2 := h_ ((HBEL.out _).trans (hb2.mono (HBEL.out _).size)); clear hb2)
    | (go_at_call 86; refine (HRF.out _).mono ?_; rintro e w4 ⟨rfl, hb4⟩; have HB4 := h_ (HB2.out.trans (hb4.mono HB2.out.size)); clear hb4)
    | (go_at_call 36; refine (HESC.out RF _ hrl).mono ?_; rintro e w3 ⟨rfl, hb3⟩; have HB3 := h_ (HB4.out.trans (hb3.mono HB4.out.size)); clear hb3)
    | fail)
   go_ret
   exact ⟨by rw [HW2.out]; rfl, HB3.out⟩
  have hbd := HBD.out
  rw [if_neg k1, if_neg k2, if_neg k3] at hbd
  have hw := HW.out
  rw [hbd, escB_nil] at hw
  have HW2 := h_ hw
  clear hbd hw
  go_enter Tryz.func41, Tryz.ntmps41
  go_wp2_with fail
  go_ret
  exact ⟨by rw [HW2.out]; rfl, HBEL.out _⟩

structure ItmFew (i : Itm) : Prop where
 url : UrlFew i.url
 n : i.words.length <= 10
 w : ∀ x ∈ i.words, x.length <= 100
theorem ItmFew.sm {i : Itm} (h : ItmFew i) : ItmSm i := ⟨h.url.sm, h.n, h.w⟩

def h0 : Hst := ⟨0, [], 0, [0, 0, 0, 0, 0, 0, 0, 0]⟩
def hA : Hst := ⟨2, [97], 0, [0, 0, 0, 0, 0, 0, 0, 0]⟩
def uA : Url := ⟨[104, 116, 116, 112], [], [], hA, false, 0, false, [], [[]], true, [98, 38, 99], false, []⟩
def uO (fl : Bytes) : Url := ⟨[120], [], [], h0, false, 0, true, fl, [], false, [], false, []⟩
def ZU : Array Value := #[.string ⟨#[]⟩, .string ⟨#[]⟩, .string ⟨#[]⟩, .int .i64 0, .string ⟨#[]⟩, .int .u32 0, .int .u16 0, .int .u16 0, .int .u16 0, .int .u16 0, .int .u16 0, .int .u16 0, .int .u16 0, .int .u16 0, .bool false, .int .i64 0, .bool false, .string ⟨#[]⟩, .slice none 0 0, .bool false, .string ⟨#[]⟩, .bool false, .string ⟨#[]⟩]
theorem allU (w : World) : (Instr.alloc 30 true (Value.tuple #[])).run Tryz.prog w = .ok (.pointer (some ⟨w.heap.size, 0, none⟩)) (w.alloc (.cells ZU 30)) := by kernel_rfl
theorem bldHk (w : World) : (Instr.build 27 #[(0, .int .i64 2), (1, .string ⟨#[97]⟩)]).run Tryz.prog w = .ok (.agg (hstCells hA).toArray) w := by kernel_rfl
theorem bldAk (a : Option Addr) (n c : Nat) (w : World) : (Instr.build 30 #[(0, .string ⟨#[104, 116, 116, 112]⟩), (3, .agg (hstCells hA).toArray), (8, .slice a n c), (9, .bool true), (10, .string ⟨#[98, 38, 99]⟩)]).run Tryz.prog w = .ok (.agg (urlCells (.slice a n c) uA).toArray) w := by kernel_rfl
theorem bldO (f : Array UInt8) (w : World) : (Instr.build 30 #[(0, .string ⟨#[120]⟩), (6, .bool true), (7, .string ⟨f⟩)]).run Tryz.prog w = .ok (.agg (urlCells (.slice none 0 0) (uO f.toList)).toArray) w := by
 cases f
 kernel_rfl
theorem okO (fl : Bytes) : UrlOk (uO fl) := ⟨⟨by simp [uO, h0], by simp [uO, h0], rfl, by simp [uO, h0]⟩, by simp [uO]⟩
theorem okA : UrlOk uA := ⟨⟨by simp [uA, hA], by simp [uA, hA], rfl, by simp [uA, hA]⟩, by simp [uA]⟩
theorem url_one (pv : Value) (u : Url) (hp : pv.oneCell' = true) : (urlCells pv u).toArray.all (·.oneCell') = true := by
 refine all_oneCell_toArray fun v hv => ?_
 simp only [urlCells, hstCells, List.mem_cons, List.mem_append, List.mem_map, List.not_mem_nil, or_false] at hv
 rcases hv with (((rfl | rfl | rfl) | (rfl | rfl | rfl | ⟨n, _, rfl⟩)) | h)
 all_goals first | rfl | assumption | skip
 rcases h with rfl | rfl | rfl | rfl | rfl | rfl | rfl | rfl | rfl
 all_goals first | rfl | assumption
theorem storeU {ops : Array Oper} {rest : List Oper} {o : Oper} {a : Act} {w : World} {Q : Exit -> Act -> World -> Prop} (hgd : o.guard = none) (x y : Operand) (ho : o.op = .store 30 x y) (pv : Value) (u : Url)
  (hx : a.eval x = .pointer (some ⟨w.heap.size, 0, none⟩)) (hy : a.eval y = .agg (urlCells pv u).toArray) (ok : UrlOk u) (hp : pv.oneCell' = true)
  (h : wpList Tryz.prog ops Q rest (a.put o.dst undef) (w.alloc (.cells (urlCells pv u).toArray 30))) : wpList Tryz.prog ops Q (o :: rest) a (w.alloc (.cells ZU 30)) := by
 have hl := urlCells_len pv u ok
 exact store_new hgd 30 x y ho (urlCells pv u).toArray ZU 30 hx hy (by rw [List.size_toArray, hl]; kernel_rfl) (by rw [show (urlCells pv u).toArray.size = 23 by rw [List.size_toArray, hl]]; rfl) (url_one pv u hp) h
theorem fresh_range (w : World) (cs : List Value) (t : TypeId) : (w.alloc (.cells cs.toArray t)).rangeAt w.heap.size 0 cs := fun j v hj => by
 rw [World.cell?_alloc_mark, Nat.zero_add, List.getElem?_toArray]; exact hj
theorem range_keep {w w' : World} {b o : Nat} {cs : List Value} (h : w.rangeAt b o cs) (hb : Below w.heap.size w w') (hlt : b < w.heap.size) : w'.rangeAt b o cs := fun j v hj => (hb.cell (p := ⟨b, o + j, none⟩) hlt).trans (h j v hj)
section
variable {ops : Array Oper} {rest : List Oper} {o : Oper} {a : Act} {w : World} {Q : Exit -> Act -> World -> Prop}
theorem bslice_to (hg : o.guard = none) (t : TypeId) (n : Nat) (parts : Array (Nat × Operand)) (ho : o.op = .buildSlice t n parts) (v : Value) (w' : World) (xs : Array (Nat × Value)) (hx : parts.map (fun (i, x) => (i, a.eval x)) = xs) (hr : (Instr.buildSlice t n xs).run Tryz.prog w = .ok v w') (h : wpList Tryz.prog ops Q rest (a.put o.dst v) w') : wpList Tryz.prog ops Q (o :: rest) a w := by
 refine wpList_plain hg fun K hK => ?_
 subst hx
 unfold Oper.wp execOp
 simp only [ho, Sem.run_bind, Sem.run_pure, Result.andThen_ok, hr]
 exact hK _ _ h
theorem b_host (hg : o.guard = none) (ho : o.op = .build 27 #[(0, .const (.int .i64 2)), (1, .const (.string ⟨#[97]⟩))]) (h : wpList Tryz.prog ops Q rest (a.put o.dst (.agg (hstCells hA).toArray)) w) : wpList Tryz.prog ops Q (o :: rest) a w :=
 build_to hg 27 _ ho (.agg (hstCells hA).toArray) #[(0, .int .i64 2), (1, .string ⟨#[97]⟩)] (by simp [Act.eval]) bldHk h
theorem b_urlA (hg : o.guard = none) (i j : Tmp) (ho : o.op = .build 30 #[(0, .const (.string ⟨#[104, 116, 116, 112]⟩)), (3, .tmp i), (8, .tmp j), (9, .const (.bool true)), (10, .const (.string ⟨#[98, 38, 99]⟩))]) (av : Option Addr) (n c : Nat)
  (hi : a.eval (.tmp i) = .agg (hstCells hA).toArray) (hj : a.eval (.tmp j) = .slice av n c) (h : wpList Tryz.prog ops Q rest (a.put o.dst (.agg (urlCells (.slice av n c) uA).toArray)) w) : wpList Tryz.prog ops Q (o :: rest) a w := by
 refine build_to hg 30 _ ho (.agg (urlCells (.slice av n c) uA).toArray) #[(0, .string ⟨#[104, 116, 116, 112]⟩), (3, .agg (hstCells hA).toArray), (8, .slice av n c), (9, .bool true), (10, .string ⟨#[98, 38, 99]⟩)] ?_ (bldAk av n c) h
 rw [<- hi, <- hj]
 simp [Act.eval]
theorem b_urlO (hg : o.guard = none) (f : Array UInt8) (ho : o.op = .build 30 #[(0, .const (.string ⟨#[120]⟩)), (6, .const (.bool true)), (7, .const (.string ⟨f⟩))]) (h : wpList Tryz.prog ops Q rest (a.put o.dst (.agg (urlCells (.slice none 0 0) (uO f.toList)).toArray)) w) : wpList Tryz.prog ops Q (o :: rest) a w :=
 build_to hg 30 _ ho (.agg (urlCells (.slice none 0 0) (uO f.toList)).toArray) #[(0, .string ⟨#[120]⟩), (6, .bool true), (7, .string ⟨f⟩)] (by simp [Act.eval]) (bldO f) h
end
structure UrlB (W : World) (b : Nat) (pv : Value) (u : Url) : Prop where
 range : W.rangeAt b 0 (urlCells pv u)
 lt : b < W.heap.size
 ok : UrlOk u
 sl : Sl W.heap.size W pv (u.path.map S)
theorem UrlB.keep {W W' : World} {b : Nat} {pv : Value} {u : Url} (h : UrlB W b pv u) (hb : Below W.heap.size W W') : UrlB W' b pv u :=
 ⟨range_keep h.range hb h.lt, Nat.lt_of_lt_of_le h.lt hb.size, h.ok, (h.sl.below hb).more hb.size⟩
theorem UrlB.new (W : World) (pv : Value) (u : Url) (ok : UrlOk u) (sl : Sl W.heap.size W pv (u.path.map S)) : UrlB (W.alloc (.cells (urlCells pv u).toArray 30)) W.heap.size pv u :=
 ⟨fresh_range W _ _, by simp, ok, (sl.below ((Below.refl _ _).alloc (Nat.le_refl _) _)).more (by simp)⟩
theorem sl_one1 (W : World) (s : Bytes) : Sl (W.alloc (.cells #[S s] 9)).heap.size (W.alloc (.cells #[S s] 9)) (.slice (some ⟨W.heap.size, 0, none⟩) 1 1) ([s].map S) := by
 refine ⟨1, by simp, by unfold maxLen; omega, .inr ⟨W.heap.size, 0, by simp, rfl, fun j hj => ?_⟩⟩
 have h0 : j = 0 := by simpa using hj
 subst h0
 rw [World.cell?_alloc_mark]; rfl
theorem bel_new (W : World) (o : Obj) : Below W.heap.size W (W.alloc o) := (Below.refl _ _).alloc (Nat.le_refl _) _
def iA : Itm := ⟨false, uA, [[49, 120]]⟩
def iB : Itm := ⟨false, uO [121], []⟩
theorem bldIA (a : Option Addr) (n c : Nat) (a' : Option Addr) (n' c' : Nat) (w : World) : (Instr.build 56 #[(1, .agg (urlCells (.slice a n c) uA).toArray), (2, .slice a' n' c')]).run Tryz.prog w = .ok (.agg (itmCells (.slice a n c) (.slice a' n' c') iA).toArray) w := by kernel_rfl
theorem bldIB (w : World) : (Instr.build 56 #[(1, .agg (urlCells (.slice none 0 0) (uO [121])).toArray)]).run Tryz.prog w = .ok (.agg (itmCells (.slice none 0 0) (.slice none 0 0) iB).toArray) w := by kernel_rfl
theorem bldS (a : Option Addr) (n c : Nat) (a' : Option Addr) (n' c' : Nat) (w : World) : (Instr.buildSlice 49 2 #[(0, .agg (itmCells (.slice a n c) (.slice a' n' c') iA).toArray), (1, .agg (itmCells (.slice none 0 0) (.slice none 0 0) iB).toArray)]).run Tryz.prog w =
  .ok (.slice (some ⟨w.heap.size, 0, none⟩) 2 2) (w.alloc (.cells (itmCells (.slice a n c) (.slice a' n' c') iA ++ itmCells (.slice none 0 0) (.slice none 0 0) iB).toArray 56)) := by kernel_rfl
section
variable {ops : Array Oper} {rest : List Oper} {o : Oper} {a : Act} {w : World} {Q : Exit -> Act -> World -> Prop}
theorem b_itmA (hg : o.guard = none) (i j : Tmp) (ho : o.op = .build 56 #[(1, .tmp i), (2, .tmp j)]) (av : Option Addr) (n c : Nat) (av' : Option Addr) (n' c' : Nat)
  (hi : a.eval (.tmp i) = .agg (urlCells (.slice av n c) uA).toArray) (hj : a.eval (.tmp j) = .slice av' n' c') (h : wpList Tryz.prog ops Q rest (a.put o.dst (.agg (itmCells (.slice av n c) (.slice av' n' c') iA).toArray)) w) : wpList Tryz.prog ops Q (o :: rest) a w := by
 refine build_to hg 56 _ ho (.agg (itmCells (.slice av n c) (.slice av' n' c') iA).toArray) #[(1, .agg (urlCells (.slice av n c) uA).toArray), (2, .slice av' n' c')] ?_ (bldIA av n c av' n' c') h
 rw [<- hi, <- hj]
 simp [Act.eval]
theorem b_itmB (hg : o.guard = none) (i : Tmp) (ho : o.op = .build 56 #[(1, .tmp i)])
  (hi : a.eval (.tmp i) = .agg (urlCells (.slice none 0 0) (uO [121])).toArray) (h : wpList Tryz.prog ops Q rest (a.put o.dst (.agg (itmCells (.slice none 0 0) (.slice none 0 0) iB).toArray)) w) : wpList Tryz.prog ops Q (o :: rest) a w := by
 refine build_to hg 56 _ ho (.agg (itmCells (.slice none 0 0) (.slice none 0 0) iB).toArray) #[(1, .agg (urlCells (.slice none 0 0) (uO [121])).toArray)] ?_ bldIB h
 rw [<- hi]
 simp [Act.eval]
theorem b_items (hg : o.guard = none) (i j : Tmp) (ho : o.op = .buildSlice 49 2 #[(0, .tmp i), (1, .tmp j)]) (av : Option Addr) (n c : Nat) (av' : Option Addr) (n' c' : Nat)
  (hi : a.eval (.tmp i) = .agg (itmCells (.slice av n c) (.slice av' n' c') iA).toArray) (hj : a.eval (.tmp j) = .agg (itmCells (.slice none 0 0) (.slice none 0 0) iB).toArray)
  (h : wpList Tryz.prog ops Q rest (a.put o.dst (.slice (some ⟨w.heap.size, 0, none⟩) 2 2)) (w.alloc (.cells (itmCells (.slice av n c) (.slice av' n' c') iA ++ itmCells (.slice none 0 0) (.slice none 0 0) iB).toArray 56))) : wpList Tryz.prog ops Q (o :: rest) a w := by
 refine bslice_to hg _ _ _ ho _ _ #[(0, .agg (itmCells (.slice av n c) (.slice av' n' c') iA).toArray), (1, .agg (itmCells (.slice none 0 0) (.slice none 0 0) iB).toArray)] ?_ (bldS av n c av' n' c' w) h
 rw [<- hi, <- hj]
 simp [Act.eval]
end
theorem items_two (W : World) (pv wv : Value) (h1 : Sl W.heap.size W pv (uA.path.map S)) (h2 : Sl W.heap.size W wv (iA.words.map S)) :
  Items (W.alloc (.cells (itmCells pv wv iA ++ itmCells (.slice none 0 0) (.slice none 0 0) iB).toArray 56)).heap.size (W.alloc (.cells (itmCells pv wv iA ++ itmCells (.slice none 0 0) (.slice none 0 0) iB).toArray 56)) (.slice (some ⟨W.heap.size, 0, none⟩) 2 2) [iA, iB] := by
 have hl : (itmCells pv wv iA).length = 25 := itmCells_len pv wv iA okA
 have hr := fresh_range W (itmCells pv wv iA ++ itmCells (.slice none 0 0) (.slice none 0 0) iB) 56
 refine ⟨2, by simp, .inr ⟨W.heap.size, 0, by simp, rfl, fun k hk => ?_⟩⟩
 match k, hk with
 | 0, _ =>
  refine ⟨pv, wv, fun j v hj => ?_, okA, (h1.below (bel_new W _)).more (by simp), (h2.below (bel_new W _)).more (by simp)⟩
  have hj2 : (itmCells pv wv iA)[j]? = some v := hj
  have hjl := (List.getElem?_eq_some_iff.1 hj2).1
  exact hr j v (by rw [List.getElem?_append_left hjl]; exact hj2)
 | 1, _ =>
  refine ⟨.slice none 0 0, .slice none 0 0, fun j v hj => ?_, okO _, Sl.nil, Sl.nil⟩
  have hj2 : (itmCells (.slice none 0 0) (.slice none 0 0) iB)[j]? = some v := hj
  have := hr (25 + j) v (by rw [List.getElem?_append_right (by omega), hl, show 25 + j - 25 = j by omega]; exact hj2)
  rw [Nat.zero_add] at this
  exact this
theorem wpList_load_g {P : Program} {ops : Array Oper} {rest : List Oper} {op : Oper} {a : Act} {w : World} {Q : Exit -> Act -> World -> Prop} (hw : Region.wanted op (yielded ops a.tmps) = true) (ty : TypeId) (x : Operand) (ho : op.op = .load ty x)
  (b o : Nat) (hx : a.eval x = .pointer (some ⟨b, o, none⟩)) (cs : List Value) (d : TypeDesc) (hc : w.rangeAt b o cs)
  (hu : P.underlying ty = some d) (hd : d.isRow = true) (hi : (P.info? ty).map (·.size) = some cs.length)
  (h : wpList P ops Q rest (a.put op.dst (.agg cs.toArray)) w) : wpList P ops Q (op :: rest) a w := by
 unfold wpList
 rw [if_pos hw]
 exact .inl (wp_load_mid ty x ho b o hx cs d hc hu hd hi h)
theorem smA : UrlSm uA := ⟨by simp [uA], by simp [uA], by simp [uA], by simp [uA, hA], by simp [uA], by simp [uA, joinP], by simp [uA], by simp [uA]⟩
theorem smO (fl : Bytes) (h : fl.length <= 10) : UrlSm (uO fl) := ⟨by simp [uO], by simp [uO], by simp [uO], by simp [uO, h0], by simp [uO]; omega, by simp [uO, joinP], by simp [uO], by simp [uO]⟩
theorem smI : ∀ i ∈ [iA, iB], ItmSm i := by
 intro i hi
 simp only [List.mem_cons, List.not_mem_nil, or_false] at hi
 rcases hi with rfl | rfl
 ·exact ⟨smA, by simp [iA], by simp [iA]⟩
 ·exact ⟨smO _ (by simp), by simp [iB], by simp [iB]⟩
theorem fA : fitsF (serF uA true) = true := by decide +kernel
theorem fC : fitsF (serF (uO [121, 44]) true) = false := by decide +kernel
theorem fD : fitsF (serF (uO [121, 32, 122]) true) = false := by decide +kernel
theorem w2 : writeF 2 [iA, iB] [53] = [104, 116, 116, 112, 58, 47, 47, 97, 47, 63, 98, 38, 97, 109, 112, 59, 99, 32, 49, 120, 44, 32, 120, 58, 121] := by decide +kernel
theorem w1 : writeF 1 [iA, iB] [53] = [104, 116, 116, 112, 58, 47, 47, 97, 47, 63, 98, 38, 97, 109, 112, 59, 99] := by decide +kernel
theorem w3 : writeF 3 [iA, iB] [53] = [53, 59, 32, 117, 114, 108, 61, 104, 116, 116, 112, 58, 47, 47, 97, 47, 63, 98, 38, 97, 109, 112, 59, 99] := by decide +kernel
theorem w0 : writeF 0 [iA, iB] [53] = [] := by decide +kernel
theorem sm_fits (u : Url) (b : Bool) (hb : fitsF (serF u true) = b) (sm : UrlSm u) {pv : Value} {W : World} {a : Nat} (h : UrlB W a pv u) (hE : NE W) :
  Calls Tryz.prog 40 #[.agg (urlCells pv u).toArray] W fun e w' => e = .returned (.bool b) ∧ Below W.heap.size W w' := by
 subst hb
 exact fits_any u _ pv W (urlAt_of pv h.ok) h.sl sm hE
theorem sm_write (k : Int) (x : Bytes) (hx : writeF k [iA, iB] [53] = x) {v : Value} {W : World} (h : Items W.heap.size W v [iA, iB]) (hE : NE W) (d : ByteArray) (hd : d = bs [53]) (y : ByteArray) (hy : y = bs x) :
  Calls Tryz.prog 41 #[.int .i64 k, .agg #[v, .string d]] W fun e w' => e = .returned (.string y) ∧ Below W.heap.size W w' := by
 subst hx; subst hd; subst hy
 exact ewrite_any k [iA, iB] v [53] W h smI (by simp) (by simp) hE
theorem sm_none (k : Int) {W : World} (hE : NE W) :
  Calls Tryz.prog 41 #[.int .i64 k, .agg #[.slice none 0 0, .string ⟨#[]⟩]] W fun e w' => e = .returned (.string ⟨#[]⟩) ∧ Below W.heap.size W w' :=
 ewrite_any k [] (.slice none 0 0) [] W ⟨0, by simp, .inl ⟨rfl, _, rfl⟩⟩ (by simp) (by simp) (by simp) hE
theorem small25_any (w : World) (hE : NE w) : Calls Tryz.prog 38 #[] w fun e w' => e = .returned (.bool true) ∧ Below w.heap.size w w' := by
 have HE := h_ hE; clear hE
 go_enter Tryz.func38, Tryz.ntmps38
 go_upto_region 2 with (first
  | (refine b_host rfl rfl ?_)
  | (refine b_urlA rfl 6 7 rfl _ _ _ rfl rfl ?_)
  | (refine alloc_to rfl 30 rfl _ _ (allU _) ?_)
  | (refine storeU rfl (.tmp 1) (.tmp 8) rfl _ uA rfl rfl okA rfl ?_)
  | fail)
 have uP : UrlB ((w.alloc (.cells #[.string ⟨#[]⟩] 9)).alloc (.cells (urlCells (.slice (some ⟨w.heap.size, 0, none⟩) 1 1) uA).toArray 30)) (w.alloc (.cells #[.string ⟨#[]⟩] 9)).heap.size (.slice (some ⟨w.heap.size, 0, none⟩) 1 1) uA := UrlB.new _ _ uA okA (sl_one1 w [])
 have bP : Below w.heap.size w ((w.alloc (.cells #[.string ⟨#[]⟩] 9)).alloc (.cells (urlCells (.slice (some ⟨w.heap.size, 0, none⟩) 1 1) uA).toArray 30)) := (bel_new w _).trans ((bel_new _ _).mono (by simp))
 generalize w.alloc (.cells #[.string ⟨#[]⟩] 9) = wP at uP bP ⊢
 generalize wP.alloc (.cells (urlCells (.slice (some ⟨w.heap.size, 0, none⟩) 1 1) uA).toArray 30) = wA at uP bP ⊢
 generalize wP.heap.size = aA at uP ⊢
 have HuP := h_ uP
 have HbP := h_ bP
 clear uP bP
 try simp only [Act.put, List.setIfInBounds_toArray, List.set_cons_zero, List.set_cons_succ]
 go_upto_region 3 with (first
  | (refine b_urlO rfl #[121] rfl ?_)
  | (refine alloc_to rfl 30 rfl _ _ (allU _) ?_)
  | (refine storeU rfl (.tmp 2) (.tmp 9) rfl _ (uO [121]) rfl rfl (okO _) rfl ?_)
  | fail)
 have uP := HuP.out
 have bP := HbP.out
 clear HuP HbP
 have uB := UrlB.new wA (.slice none 0 0) (uO [121]) (okO _) Sl.nil
 replace uP := uP.keep (bel_new wA (.cells (urlCells (.slice none 0 0) (uO [121])).toArray 30))
 replace bP := bP.trans ((bel_new wA (.cells (urlCells (.slice none 0 0) (uO [121])).toArray 30)).mono bP.size)
 generalize wA.alloc (.cells (urlCells (.slice none 0 0) (uO [121])).toArray 30) = wB at uP uB bP ⊢
 generalize wA.heap.size = aB at uB ⊢
 have HuP := h_ uP
 have HuB := h_ uB
 have HbP := h_ bP
 clear uP uB bP
 try simp only [Act.put, List.setIfInBounds_toArray, List.set_cons_zero, List.set_cons_succ]
 go_upto_region 4 with (first
  | (refine b_urlO rfl #[121, 44] rfl ?_)
  | (refine alloc_to rfl 30 rfl _ _ (allU _) ?_)
  | (refine storeU rfl (.tmp 3) (.tmp 10) rfl _ (uO [121, 44]) rfl rfl (okO _) rfl ?_)
  | fail)
 have uP := HuP.out
 have uB := HuB.out
 have bP := HbP.out
 clear HuP HuB HbP
 have uC := UrlB.new wB (.slice none 0 0) (uO [121, 44]) (okO _) Sl.nil
 replace uP := uP.keep (bel_new wB (.cells (urlCells (.slice none 0 0) (uO [121, 44])).toArray 30))
 replace uB := uB.keep (bel_new wB (.cells (urlCells (.slice none 0 0) (uO [121, 44])).toArray 30))
 replace bP := bP.trans ((bel_new wB (.cells (urlCells (.slice none 0 0) (uO [121, 44])).toArray 30)).mono bP.size)
 generalize wB.alloc (.cells (urlCells (.slice none 0 0) (uO [121, 44])).toArray 30) = wC at uP uB uC bP ⊢
 generalize wB.heap.size = aC at uC ⊢
 have HuP := h_ uP
 have HuB := h_ uB
 have HuC := h_ uC
 have HbP := h_ bP
 clear uP uB uC bP
 try simp only [Act.put, List.setIfInBounds_toArray, List.set_cons_zero, List.set_cons_succ]
 go_upto_region 5 with (first
  | (refine b_urlO rfl #[121, 32, 122] rfl ?_)
  | (refine alloc_to rfl 30 rfl _ _ (allU _) ?_)
  | (refine storeU rfl (.tmp 4) (.tmp 11) rfl _ (uO [121, 32, 122]) rfl rfl (okO _) rfl ?_)
  | fail)
 have uP := HuP.out
 have uB := HuB.out
 have uC := HuC.out
 have bP := HbP.out
 clear HuP HuB HuC HbP
 have uD := UrlB.new wC (.slice none 0 0) (uO [121, 32, 122]) (okO _) Sl.nil
 replace uP := uP.keep (bel_new wC (.cells (urlCells (.slice none 0 0) (uO [121, 32, 122])).toArray 30))
 replace uB := uB.keep (bel_new wC (.cells (urlCells (.slice none 0 0) (uO [121, 32, 122])).toArray 30))
 replace uC := uC.keep (bel_new wC (.cells (urlCells (.slice none 0 0) (uO [121, 32, 122])).toArray 30))
 replace bP := bP.trans ((bel_new wC (.cells (urlCells (.slice none 0 0) (uO [121, 32, 122])).toArray 30)).mono bP.size)
 generalize wC.alloc (.cells (urlCells (.slice none 0 0) (uO [121, 32, 122])).toArray 30) = wD at uP uB uC uD bP ⊢
 generalize wC.heap.size = aD at uD ⊢
 have UA := h_ uP; have UB := h_ uB; have UC := h_ uC; have UD := h_ uD; have BP := h_ bP
 clear uP uB uC uD bP
 try simp only [Act.put, List.setIfInBounds_toArray, List.set_cons_zero, List.set_cons_succ]
 have hit : Items ((wD.alloc (.cells #[.string ⟨#[49, 120]⟩] 9)).alloc (.cells (itmCells (.slice (some ⟨w.heap.size, 0, none⟩) 1 1) (.slice (some ⟨wD.heap.size, 0, none⟩) 1 1) iA ++ itmCells (.slice none 0 0) (.slice none 0 0) iB).toArray 56)).heap.size ((wD.alloc (.cells #[.string ⟨#[49, 120]⟩] 9)).alloc (.cells (itmCells (.slice (some ⟨w.heap.size, 0, none⟩) 1 1) (.slice (some ⟨wD.heap.size, 0, none⟩) 1 1) iA ++ itmCells (.slice none 0 0) (.slice none 0 0) iB).toArray 56)) (.slice (some ⟨(wD.alloc (.cells #[.string ⟨#[49, 120]⟩] 9)).heap.size, 0, none⟩) 2 2) [iA, iB] := items_two (wD.alloc (.cells #[.string ⟨#[49, 120]⟩] 9)) _ _ ((UA.out.sl.below (bel_new wD _)).more (by simp)) (sl_one1 wD [49, 120])
 have hbI : Below wD.heap.size wD ((wD.alloc (.cells #[.string ⟨#[49, 120]⟩] 9)).alloc (.cells (itmCells (.slice (some ⟨w.heap.size, 0, none⟩) 1 1) (.slice (some ⟨wD.heap.size, 0, none⟩) 1 1) iA ++ itmCells (.slice none 0 0) (.slice none 0 0) iB).toArray 56)) := (bel_new wD _).trans ((bel_new (wD.alloc (.cells #[.string ⟨#[49, 120]⟩] 9)) _).mono (by simp))
 have HITEMS := h_ hit; clear hit
 have HBI := h_ hbI; clear hbI
 go_upto_region 6 with (first
  | (refine wpList_load_mid rfl 30 (.tmp 1) rfl aA 0 rfl (urlCells (.slice (some ⟨w.heap.size, 0, none⟩) 1 1) uA) _ UA.out.range Tryz.underlying30 rfl (by rw [urlCells_len _ _ UA.out.ok]; kernel_rfl) ?_)
  | (refine wpList_load_mid rfl 30 (.tmp 2) rfl aB 0 rfl (urlCells (.slice none 0 0) (uO [121])) _ (UB.out.keep (bel_new wD (.cells #[.string ⟨#[49, 120]⟩] 9))).range Tryz.underlying30 rfl (by rw [urlCells_len _ _ UB.out.ok]; kernel_rfl) ?_)
  | (refine b_itmA rfl 12 13 rfl _ _ _ _ _ _ rfl rfl ?_)
  | (refine b_itmB rfl 15 rfl rfl ?_)
  | (refine b_items rfl 14 16 rfl _ _ _ _ _ _ rfl rfl ?_)
  | fail)
 have hb : Below wD.heap.size wD (((wD.alloc (.cells #[.string ⟨#[49, 120]⟩] 9)).alloc (.cells (itmCells (.slice (some ⟨w.heap.size, 0, none⟩) 1 1) (.slice (some ⟨wD.heap.size, 0, none⟩) 1 1) iA ++ itmCells (.slice none 0 0) (.slice none 0 0) iB).toArray 56)).alloc (.cells #[.slice (some ⟨wD.heap.size + 1, 0, none⟩) 2 2, .string ⟨#[53]⟩] 51)) := HBI.out.trans ((bel_new ((wD.alloc (.cells #[.string ⟨#[49, 120]⟩] 9)).alloc (.cells (itmCells (.slice (some ⟨w.heap.size, 0, none⟩) 1 1) (.slice (some ⟨wD.heap.size, 0, none⟩) 1 1) iA ++ itmCells (.slice none 0 0) (.slice none 0 0) iB).toArray 56)) (.cells #[.slice (some ⟨wD.heap.size + 1, 0, none⟩) 2 2, .string ⟨#[53]⟩] 51)).mono HBI.out.size)
 have hI : Items (((wD.alloc (.cells #[.string ⟨#[49, 120]⟩] 9)).alloc (.cells (itmCells (.slice (some ⟨w.heap.size, 0, none⟩) 1 1) (.slice (some ⟨wD.heap.size, 0, none⟩) 1 1) iA ++ itmCells (.slice none 0 0) (.slice none 0 0) iB).toArray 56)).alloc (.cells #[.slice (some ⟨wD.heap.size + 1, 0, none⟩) 2 2, .string ⟨#[53]⟩] 51)).heap.size (((wD.alloc (.cells #[.string ⟨#[49, 120]⟩] 9)).alloc (.cells (itmCells (.slice (some ⟨w.heap.size, 0, none⟩) 1 1) (.slice (some ⟨wD.heap.size, 0, none⟩) 1 1) iA ++ itmCells (.slice none 0 0) (.slice none 0 0) iB).toArray 56)).alloc (.cells #[.slice (some ⟨wD.heap.size + 1, 0, none⟩) 2 2, .string ⟨#[53]⟩] 51)) (.slice (some ⟨wD.heap.size + 1, 0, none⟩) 2 2) [iA, iB] := by
  have := HITEMS.out
  rw [show (wD.alloc (.cells #[.string ⟨#[49, 120]⟩] 9)).heap.size = wD.heap.size + 1 by simp] at this
  exact (this.below (bel_new ((wD.alloc (.cells #[.string ⟨#[49, 120]⟩] 9)).alloc (.cells (itmCells (.slice (some ⟨w.heap.size, 0, none⟩) 1 1) (.slice (some ⟨wD.heap.size, 0, none⟩) 1 1) iA ++ itmCells (.slice none 0 0) (.slice none 0 0) iB).toArray 56)) (.cells #[.slice (some ⟨wD.heap.size + 1, 0, none⟩) 2 2, .string ⟨#[53]⟩] 51))).more (by simp)
 have hc : ∀ W, Below (((wD.alloc (.cells #[.string ⟨#[49, 120]⟩] 9)).alloc (.cells (itmCells (.slice (some ⟨w.heap.size, 0, none⟩) 1 1) (.slice (some ⟨wD.heap.size, 0, none⟩) 1 1) iA ++ itmCells (.slice none 0 0) (.slice none 0 0) iB).toArray 56)).alloc (.cells #[.slice (some ⟨wD.heap.size + 1, 0, none⟩) 2 2, .string ⟨#[53]⟩] 51)).heap.size (((wD.alloc (.cells #[.string ⟨#[49, 120]⟩] 9)).alloc (.cells (itmCells (.slice (some ⟨w.heap.size, 0, none⟩) 1 1) (.slice (some ⟨wD.heap.size, 0, none⟩) 1 1) iA ++ itmCells (.slice none 0 0) (.slice none 0 0) iB).toArray 56)).alloc (.cells #[.slice (some ⟨wD.heap.size + 1, 0, none⟩) 2 2, .string ⟨#[53]⟩] 51)) W -> W.cell? ⟨wD.heap.size + 1 + 1, 0, none⟩ = some (.slice (some ⟨wD.heap.size + 1, 0, none⟩) 2 2) ∧ W.cell? ⟨wD.heap.size + 1 + 1, 1, none⟩ = some (.string ⟨#[53]⟩) := fun W hW => by
  have e : ((wD.alloc (.cells #[.string ⟨#[49, 120]⟩] 9)).alloc (.cells (itmCells (.slice (some ⟨w.heap.size, 0, none⟩) 1 1) (.slice (some ⟨wD.heap.size, 0, none⟩) 1 1) iA ++ itmCells (.slice none 0 0) (.slice none 0 0) iB).toArray 56)).heap.size = wD.heap.size + 1 + 1 := by simp
  rw [hW.cell (p := ⟨wD.heap.size + 1 + 1, 0, none⟩) (by simp), hW.cell (p := ⟨wD.heap.size + 1 + 1, 1, none⟩) (by simp), <- e, World.cell?_alloc_mark, World.cell?_alloc_mark]
  exact ⟨rfl, rfl⟩
 generalize ((wD.alloc (.cells #[.string ⟨#[49, 120]⟩] 9)).alloc (.cells (itmCells (.slice (some ⟨w.heap.size, 0, none⟩) 1 1) (.slice (some ⟨wD.heap.size, 0, none⟩) 1 1) iA ++ itmCells (.slice none 0 0) (.slice none 0 0) iB).toArray 56)).alloc (.cells #[.slice (some ⟨wD.heap.size + 1, 0, none⟩) 2 2, .string ⟨#[53]⟩] 51) = wR at hb hI hc ⊢
 generalize wD.heap.size + 1 + 1 = rr at hc ⊢
 generalize wD.heap.size + 1 = ii at hc hI ⊢
 have VA := h_ (UA.out.keep hb)
 have VC := h_ (UC.out.keep hb)
 have VD := h_ (UD.out.keep hb)
 have BR := h_ (BP.out.trans (hb.mono BP.out.size))
 have HI := h_ hI
 have HCC := h_ hc
 clear hb hI hc UA UB UC UD HITEMS HBI
 have HER := h_ (HE.out.below BR.out)
 obtain ⟨pvA, hpvA⟩ := ex_ (Value.slice (some ⟨w.heap.size, 0, none⟩) 1 1)
 rw [<- hpvA] at VA ⊢
 have HPV := h_ hpvA; clear hpvA
 have HB0 := h_ (Below.refl wR.heap.size wR)
 go_wp2_with (first
  | (refine wpList_load_mid rfl 30 (.tmp 1) rfl aA 0 rfl (urlCells pvA uA) _ (VA.out.keep HB0.out).range Tryz.underlying30 rfl (by rw [urlCells_len _ _ VA.out.ok]; kernel_rfl) ?_)
  | (refine wpList_load_g (by rfl) 30 (.tmp 1) rfl aA 0 rfl (urlCells pvA uA) _ (VA.out.keep HB0.out).range Tryz.underlying30 rfl (by rw [urlCells_len _ _ VA.out.ok]; kernel_rfl) ?_)
  | fail)
 refine (sm_fits uA true fA smA (VA.out.keep HB0.out) (HER.out.below HB0.out)).mono ?_
 rintro e x1 ⟨rfl, hb⟩
 have HB1 := h_ (HB0.out.trans (hb.mono HB0.out.size)); clear hb
 go_wp2_with (first
  | (refine wpList_load_mid rfl 30 (.tmp 3) rfl aC 0 rfl (urlCells (.slice none 0 0) (uO [121, 44])) _ (VC.out.keep HB1.out).range Tryz.underlying30 rfl (by rw [urlCells_len _ _ VC.out.ok]; kernel_rfl) ?_)
  | (refine wpList_load_g (by rfl) 30 (.tmp 3) rfl aC 0 rfl (urlCells (.slice none 0 0) (uO [121, 44])) _ (VC.out.keep HB1.out).range Tryz.underlying30 rfl (by rw [urlCells_len _ _ VC.out.ok]; kernel_rfl) ?_)
  | fail)
 refine (sm_fits (uO [121, 44]) false fC (smO _ (by simp)) (VC.out.keep HB1.out) (HER.out.below HB1.out)).mono ?_
 rintro e x2 ⟨rfl, hb⟩
 have HB2 := h_ (HB1.out.trans (hb.mono HB1.out.size)); clear hb
 go_wp2_with (first
  | (refine wpList_load_mid rfl 30 (.tmp 4) rfl aD 0 rfl (urlCells (.slice none 0 0) (uO [121, 32, 122])) _ (VD.out.keep HB2.out).range Tryz.underlying30 rfl (by rw [urlCells_len _ _ VD.out.ok]; kernel_rfl) ?_)
  | (refine wpList_load_g (by rfl) 30 (.tmp 4) rfl aD 0 rfl (urlCells (.slice none 0 0) (uO [121, 32, 122])) _ (VD.out.keep HB2.out).range Tryz.underlying30 rfl (by rw [urlCells_len _ _ VD.out.ok]; kernel_rfl) ?_)
  | fail)
 refine (sm_fits (uO [121, 32, 122]) false fD (smO _ (by simp)) (VD.out.keep HB2.out) (HER.out.below HB2.out)).mono ?_
 rintro e x3 ⟨rfl, hb⟩
 have HB3 := h_ (HB2.out.trans (hb.mono HB2.out.size)); clear hb
 obtain ⟨c0, c1⟩ := HCC.out _ HB3.out
 go_wp2_with fail
 clear c0 c1
 refine (sm_write 2 _ w2 ((HI.out.below HB3.out).more HB3.out.size) (HER.out.below HB3.out) _ rfl ⟨#[104, 116, 116, 112, 58, 47, 47, 97, 47, 63, 98, 38, 97, 109, 112, 59, 99, 32, 49, 120, 44, 32, 120, 58, 121]⟩ rfl).mono ?_
 rintro e x4 ⟨rfl, hb⟩
 have HB4 := h_ (HB3.out.trans (hb.mono HB3.out.size)); clear hb
 obtain ⟨c0, c1⟩ := HCC.out _ HB4.out
 go_wp2_with fail
 clear c0 c1
 refine (sm_write 1 _ w1 ((HI.out.below HB4.out).more HB4.out.size) (HER.out.below HB4.out) _ rfl ⟨#[104, 116, 116, 112, 58, 47, 47, 97, 47, 63, 98, 38, 97, 109, 112, 59, 99]⟩ rfl).mono ?_
 rintro e x5 ⟨rfl, hb⟩
 have HB5 := h_ (HB4.out.trans (hb.mono HB4.out.size)); clear hb
 obtain ⟨c0, c1⟩ := HCC.out _ HB5.out
 go_wp2_with fail
 clear c0 c1
 refine (sm_write 3 _ w3 ((HI.out.below HB5.out).more HB5.out.size) (HER.out.below HB5.out) _ rfl ⟨#[53, 59, 32, 117, 114, 108, 61, 104, 116, 116, 112, 58, 47, 47, 97, 47, 63, 98, 38, 97, 109, 112, 59, 99]⟩ rfl).mono ?_
 rintro e x6 ⟨rfl, hb⟩
 have HB6 := h_ (HB5.out.trans (hb.mono HB5.out.size)); clear hb
 obtain ⟨c0, c1⟩ := HCC.out _ HB6.out
 go_wp2_with fail
 clear c0 c1
 refine (sm_write 0 _ w0 ((HI.out.below HB6.out).more HB6.out.size) (HER.out.below HB6.out) _ rfl ⟨#[]⟩ rfl).mono ?_
 rintro e x7 ⟨rfl, hb⟩
 have HB7 := h_ (HB6.out.trans (hb.mono HB6.out.size)); clear hb
 go_wp2_with fail
 refine (sm_none 1 (HER.out.below HB7.out)).mono ?_
 rintro e x8 ⟨rfl, hb⟩
 have HB8 := h_ (HB7.out.trans (hb.mono HB7.out.size)); clear hb
 go_wp2_with fail
 go_ret
 exact ⟨ret1_bool (by simp), BR.out.trans (HB8.out.mono BR.out.size)⟩
end Go.Proofs.YtpckaimpjccjhaaGreatDoor
