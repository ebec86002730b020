/- NumT SerW: joined. -/
import Derived.Shelf.Strconv.Itoa4
import Derived.Test.YtpckaimpjccjhaaGreatDoorGNumB
import Derived.Deep.DeepCutAuto
import Derived.Test.YtpckaimpjccjhaaGreatDoorGEmB
set_option maxHeartbeats 40000000
namespace Go.Proofs.YtpckaimpjccjhaaGreatDoor
open Go.RowKit
set_option maxRecDepth 10000
theorem itoa_any (n : Int) (w : World) (h0 : -9223372036854775808 <= n) (h1 : n <= 9223372036854775807) (hE : NE w) :
  Calls Tryz.prog 82 #[.int .i64 n] w fun e w' => e = .returned (S (Lib.itoa n)) ∧ Below w.heap.size w w' :=
 (Any.strconv_Itoa Tryz.laysItoa n h0 h1 w hE.tab).mono fun _ _ ⟨h2, k, os, h3⟩ => ⟨h2, h3 ▸ Lib.below_grow w.heap.size w (Nat.le_refl _) k os⟩

def portF (u : Url) : Bytes := if u.hasPort then [58] ++ Lib.itoa u.port else []
def dotF (u : Url) : Bytes := if u.opq = false ∧ 2 <= u.path.length ∧ u.path.head? = some [] then [47, 46] else []
def aheadF (u : Url) : Bytes := if u.host.kind = 0 then dotF u else [47, 47] ++ whoF u ++ hostF u.host ++ portF u
def qF (u : Url) : Bytes := if u.hasQ then [63] ++ u.q else []
def frF (u : Url) (frag : Bool) : Bytes := if u.hasF && frag then [35] ++ u.f else []
def serF (u : Url) (frag : Bool) : Bytes := u.sch ++ [58] ++ aheadF u ++ pathF u ++ qF u ++ frF u frag
structure UrlSm (u : Url) : Prop where
 sch : u.sch.length <= 1024000000
 usr : u.usr.length <= 102400000
 pas : u.pas.length <= 102400000
 name : u.host.name.length <= 102400000
 flat : u.flat.length <= 1024000000
 path : (joinP u.path).length <= 1024000000
 q : u.q.length <= 1024000000
 f : u.f.length <= 1024000000
theorem itoa_len (n : Int) (h0 : -9223372036854775808 <= n) (h1 : n <= 9223372036854775807) : (Lib.itoa n).length <= 21 := by
 unfold Lib.itoa
 split
 ·have := dec_len_le 18 n.natAbs (by omega)
  rw [List.length_cons]; omega
 ·have := dec_len_le 18 n.toNat (by omega)
  omega
theorem whoF_len (u : Url) (h : UrlSm u) : (whoF u).length <= 204800002 := by
 have h1 := h.usr
 have h2 := h.pas
 unfold whoF
 split
 ·simp
 ·split <;> simp only [List.length_append, List.length_cons, List.length_nil] <;> omega
theorem portF_len (u : Url) (ok : UrlOk u) : (portF u).length <= 22 := by
 have := itoa_len u.port ok.p.1 ok.p.2
 unfold portF
 split
 ·rw [List.length_append]; simp; omega
 ·simp
theorem aheadF_len (u : Url) (ok : UrlOk u) (h : UrlSm u) : (aheadF u).length <= 409600000 := by
 have h1 := whoF_len u h
 have h2 := hostF_len u.host ok.h 102400000 h.name
 have h3 := portF_len u ok
 unfold aheadF dotF
 split
 ·split <;> simp
 ·simp only [List.length_append, List.length_cons, List.length_nil]; omega
theorem pathF_len (u : Url) (h : UrlSm u) : (pathF u).length <= 1024000000 := by
 unfold pathF
 split
 ·exact h.flat
 ·exact h.path
theorem qF_len (u : Url) (h : UrlSm u) : (qF u).length <= 1024000001 := by
 have := h.q
 unfold qF
 split
 ·rw [List.length_append]; simp; omega
 ·simp
theorem cellB {w1 W : World} {bx : Nat} {cs : Array Value} (hb : Below w1.heap.size w1 W) (hbx : bx < w1.heap.size) (HC : ∀ i, w1.cell? ⟨bx, i, none⟩ = cs[i]?) (i : Nat) : W.cell? ⟨bx, i, none⟩ = cs[i]? :=
 (hb.cell (p := ⟨bx, i, none⟩) hbx).trans (HC i)
theorem swr_any (u : Url) (cs : Array Value) (pv : Value) (fr : Bool) (w : World) (h : UrlAt cs pv u) (hp : Sl w.heap.size w pv (u.path.map S)) (hs : UrlSm u) (hE : NE w) :
  Calls Tryz.prog 39 #[.agg cs, .bool fr] w fun e w' => e = .returned (S (serF u fr)) ∧ Below w.heap.size w w' := by
 have hwho := fun W => who_any u cs pv W h hs.usr hs.pas
 have hhost := fun W (hW : Below w.heap.size w W) => hwrite_any u.host _ W (hstAt_of h.ok.h) hs.name (hE.below hW)
 have hpath := fun W (hW : Below w.heap.size w W) => spath_any u cs pv W h ((hp.below hW).more hW.size) hs.path
 have hitoa := fun W (hW : Below w.heap.size w W) => itoa_any u.port W h.ok.p.1 h.ok.p.2 (hE.below hW)
 have h0 := h.sch
 have h3 := h.kind
 have h14 := h.hasPort
 have h15 := h.port
 have h16 := h.opq
 have h18 := h.path
 have h19 := h.hasQ
 have h20 := h.q
 have h21 := h.hasF
 have h22 := h.f
 have hsz := h.sz
 have hC : ∀ j v, (hstCells u.host)[j]? = some v -> cs[3 + j]? = some v := by
  intro j v hj
  have hl : (hstCells u.host).length = 11 := by simp [hstCells, h.ok.h.l]
  have hj2 : j < 11 := by
   have := (List.getElem?_eq_some_iff.1 hj).1
   omega
  rw [h.hostC j hj2]; exact hj
 have hl11 : (hstCells u.host).length = 11 := by simp [hstCells, h.ok.h.l]
 have hser : serF u fr = u.sch ++ [58] ++ aheadF u ++ pathF u ++ qF u ++ frF u fr := rfl
 have hah : aheadF u = if u.host.kind = 0 then dotF u else [47, 47] ++ whoF u ++ hostF u.host ++ portF u := rfl
 have hdot : dotF u = if u.opq = false ∧ 2 <= u.path.length ∧ u.path.head? = some [] then [47, 46] else [] := rfl
 have hpo : portF u = if u.hasPort then [58] ++ Lib.itoa u.port else [] := rfl
 have hqf : qF u = if u.hasQ then [63] ++ u.q else [] := rfl
 have hff : frF u fr = if u.hasF && fr then [35] ++ u.f else [] := rfl
 have l1 := whoF_len u hs
 have l2 := hostF_len u.host h.ok.h 102400000 hs.name
 have l3 := aheadF_len u h.ok hs
 have l4 := pathF_len u hs
 have l5 := qF_len u hs
 have l6 := itoa_len u.port h.ok.p.1 h.ok.p.2
 have l7 := hs.sch
 have l8 := hs.q
 have l9 := hs.f
 have LL := h_ (And.intro l1 (And.intro l2 (And.intro l3 (And.intro l4 (And.intro l5 (And.intro l6 (And.intro l7 (And.intro l8 l9))))))))
 clear l1 l2 l3 l4 l5 l6 l7 l8 l9 h hs hE
 generalize hstCells u.host = c11 at hC hl11 hhost
 generalize serF u fr = RS at hser ⊢
 generalize whoF u = WH at *
 generalize hostF u.host = HO at *
 generalize portF u = PO at *
 generalize aheadF u = AH at *
 generalize dotF u = DO at *
 generalize pathF u = PA at *
 generalize qF u = QU at *
 generalize frF u fr = FR at *
 generalize Lib.itoa u.port = IT at *
 generalize u.sch = sch at *
 generalize u.host.kind = K at *
 generalize u.hasPort = hasPort at *
 generalize u.port = port at *
 generalize u.opq = opq at *
 generalize u.path = path at *
 generalize u.hasQ = hasQ at *
 generalize u.q = q at *
 generalize u.hasF = hasF at *
 generalize u.f = f at *
 have HWHO := h_ hwho; clear hwho
 have HHOST := h_ hhost; clear hhost
 have HPATH := h_ hpath; clear hpath
 have HITOA := h_ hitoa; clear hitoa
 have HC11 := h_ hC; clear hC
 have HL11 := h_ hl11; clear hl11
 have HSER := h_ hser; clear hser
 have HAH := h_ hah; clear hah
 have HDOT := h_ hdot; clear hdot
 have HPO := h_ hpo; clear hpo
 have HQF := h_ hqf; clear hqf
 have HFF := h_ hff; clear hff
 have HP := h_ hp; clear hp
 have HSZ := h_ hsz; clear hsz
 have HH := h_ (And.intro h3 (And.intro h14 (And.intro h15 (And.intro h16 (And.intro h18 (And.intro h19 (And.intro h20 (And.intro h21 h22))))))))
 clear h3 h14 h15 h16 h18 h19 h20 h21 h22
 go_enter Tryz.func39, Tryz.ntmps39
 go_upto_region 4 with (first
  | (refine boxed rfl _ _ rfl cs rfl ?_; intro bx w1 hb1 hb2 hb3 hb4 hb5; have HC := h_ hb4; have HB := h_ hb5; have HBX := h_ hb2; have c0 := (cellB ((Below.refl w1.heap.size w1).alloc (Nat.le_refl _) (.cells #[.pointer none, .slice none 0 0] 76)) hb2 hb4 0).trans h0; clear hb1 hb2 hb3 hb4 hb5)
  | (go_at_call 75; refine (Hb.ws sch (Hb.fresh w1) (by have := LL.out; simp; omega)).mono ?_; rintro e w2 ⟨rfl, hbd2⟩; have HBD2 := h_ hbd2; clear hbd2)
  | (go_at_call 55; refine (Hb.wb1 58 _ rfl HBD2.out (by have := LL.out; simp; omega)).mono ?_; rintro e w3 ⟨rfl, hbd3⟩; have HBD3 := h_ hbd3; clear hbd3)
  | fail)
 have hH := HH.out
 obtain ⟨h3, h14, h15, h16, h18, h19, h20, h21, h22⟩ := hH
 have CB := h_ (fun (W : World) (l : Bytes) (hb : Hb w1 l W) (i : Nat) => cellB hb.bel HBX.out HC.out i)
 have BW := h_ (fun (W : World) (l : Bytes) (hb : Hb w1 l W) => HB.out.trans (hb.bel.mono HB.out.size))
 have c3 := (CB.out _ _ HBD3.out 3).trans h3
 go_upto_if 13 with fail
 go_cut [] from 6 (fun wx => Hid (Hb w1 (sch ++ [58] ++ AH) wx))
 case first =>
  by_cases hk : K = 0
  ·have hah := HAH.out
   rw [if_pos hk] at hah
   subst hah
   obtain ⟨av, cc, hpv⟩ := slice_val HP.out
   rw [List.length_map] at hpv
   subst hpv
   have c16 := (CB.out _ _ HBD3.out 16).trans h16
   have c18 := (CB.out _ _ HBD3.out 18).trans h18
   have hdot := HDOT.out
   cases opq
   ·cases path with
    | nil =>
     rw [if_neg (by simp)] at hdot
     subst hdot
     go_wp2_with fail
     go_meet
     case rel =>
      show Hb w1 (sch ++ [58] ++ []) _
      rw [List.append_nil]
      exact HBD3.out
    | cons p0 ps =>
     have hpp := HP.out
     cases ps with
     | nil =>
      rw [if_neg (by simp)] at hdot
      subst hdot
      go_wp2_with fail
      go_meet
      case rel =>
       show Hb w1 (sch ++ [58] ++ []) _
       rw [List.append_nil]
       exact HBD3.out
     | cons p1 ps =>
      obtain ⟨pb, po, rfl, hpb, hpc⟩ := strs_at (hpp.below (BW.out _ _ HBD3.out)) 0 (by simp)
      simp only [List.getElem_cons_zero, Nat.add_zero] at hpc
      have hlen2 : (2 : Int) <= ((p0 :: p1 :: ps).length : Nat) := by simp; omega
      by_cases hp0 : p0 = []
      ·subst hp0
       rw [if_pos (by simp)] at hdot
       subst hdot
       have e1 : (bs []).toList.isEmpty = true := by rw [toList_bs]; rfl
       have e2 : (bs []).toList = [] := toList_bs _
       go_wp2_with (first
        | (go_at_call 75; refine (Hb.ws [47, 46] HBD3.out (by have := LL.out; simp; omega)).mono ?_; rintro e w4 ⟨rfl, hbd4⟩; have HBD4 := h_ hbd4; clear hbd4)
        | fail)
       go_meet
       case rel => exact HBD4.out
      ·rw [if_neg (by simp [hp0])] at hdot
       subst hdot
       have e1 : (bs p0).toList.isEmpty = false := by rw [toList_bs]; simpa using hp0
       have e2 : ¬ (bs p0).toList = [] := by rw [toList_bs]; exact hp0
       go_wp2_with fail
       go_meet
       case rel =>
        show Hb w1 (sch ++ [58] ++ []) _
        rw [List.append_nil]
        exact HBD3.out
   ·rw [if_neg (by simp)] at hdot
    subst hdot
    go_wp2_with fail
    go_meet
    case rel =>
     show Hb w1 (sch ++ [58] ++ []) _
     rw [List.append_nil]
     exact HBD3.out
  ·have hah := HAH.out
   rw [if_neg hk] at hah
   have HAH2 := h_ hah; clear hah
   have hpo := HPO.out
   have c14 := fun W (hW : Hb w1 (sch ++ [58] ++ [47, 47] ++ WH ++ HO) W) => (CB.out _ _ hW 14).trans h14
   have c15 := fun W (l : Bytes) (hW : Hb w1 l W) => (CB.out _ _ hW 15).trans h15
   have HC14 := h_ c14; clear c14
   have HC15 := h_ c15; clear c15
   go_wp2_with fail
   refine (Hb.ws [47, 47] HBD3.out (by have := LL.out; simp; omega)).mono ?_
   rintro e w4 ⟨rfl, hbd⟩
   have HBD4 := h_ hbd; clear hbd
   go_wp2_with (first
    | (refine wpList_load_mid rfl 30 _ rfl bx 0 rfl cs.toList _ (six_load 0 (fun i => by rw [Nat.zero_add]; exact CB.out _ _ HBD4.out i)) Tryz.underlying30 rfl (by rw [Array.length_toList, HSZ.out]; kernel_rfl) ?_)
    | fail)
   rw [Array.toArray_toList]
   refine (HWHO.out _).mono ?_
   rintro e w5 ⟨rfl, hb5⟩
   have HBD5 := h_ (HBD4.out.step hb5); clear hb5
   go_wp2_with fail
   refine (Hb.ws WH HBD5.out (by have := LL.out; simp; omega)).mono ?_
   rintro e w6 ⟨rfl, hbd⟩
   have HBD6 := h_ hbd; clear hbd
   go_wp2_with (first
    | (refine wpList_load_mid rfl 27 _ rfl bx 3 rfl c11 _ (fun j v hv => by rw [CB.out _ _ HBD6.out (3 + j)]; exact HC11.out j v hv) Tryz.underlying27 rfl (by rw [HL11.out]; kernel_rfl) ?_)
    | fail)
   refine (HHOST.out _ (BW.out _ _ HBD6.out)).mono ?_
   rintro e w7 ⟨rfl, hb7⟩
   have HBD7 := h_ (HBD6.out.step hb7); clear hb7
   go_wp2_with fail
   refine (Hb.ws HO HBD7.out (by have := LL.out; simp; omega)).mono ?_
   rintro e w8 ⟨rfl, hbd⟩
   have HBD8 := h_ hbd; clear hbd
   have h8 := HBD8.out
   have e8 : [] ++ sch ++ [58] ++ [47, 47] ++ WH ++ HO = sch ++ [58] ++ [47, 47] ++ WH ++ HO := rfl
   rw [e8] at h8
   have c14 := HC14.out _ h8
   cases hasPort
   ·have hpo2 : PO = [] := hpo
    clear hpo
    subst hpo2
    go_wp2_with fail
    go_meet
    case rel =>
     show Hb w1 (sch ++ [58] ++ AH) _
     rw [HAH2.out]
     simp only [List.append_nil, List.append_assoc] at h8 ⊢
     exact h8
   ·have hpo2 : PO = [58] ++ IT := hpo
    have HPO2 := h_ hpo2; clear hpo hpo2
    have H8 := h_ h8; clear h8
    go_wp2_with fail
    refine (Hb.wb1 58 _ rfl H8.out (by have := LL.out; simp; omega)).mono ?_
    rintro e w9 ⟨rfl, hbd⟩
    have HBD9 := h_ hbd; clear hbd
    have c15 := HC15.out _ _ HBD9.out
    go_wp2_with fail
    refine (HITOA.out _ (BW.out _ _ HBD9.out)).mono ?_
    rintro e w10 ⟨rfl, hb10⟩
    have HBD10 := h_ (HBD9.out.step hb10); clear hb10
    go_wp2_with fail
    refine (Hb.ws IT HBD10.out (by have := LL.out; simp; omega)).mono ?_
    rintro e w11 ⟨rfl, hbd⟩
    have HBD11 := h_ hbd; clear hbd
    go_wp2_with fail
    go_meet
    case rel =>
     show Hb w1 (sch ++ [58] ++ AH) _
     rw [HAH2.out, HPO2.out]
     have h := HBD11.out
     simp only [List.append_assoc] at h ⊢
     exact h
 case rest =>
  have HA := hcut
  clear hcut
  clear HBD3 HBD2 c0 c3
  go_wp2_with (first
   | (refine wpList_load_mid rfl 30 _ rfl bx 0 rfl cs.toList _ (six_load 0 (fun i => by rw [Nat.zero_add]; exact CB.out _ _ HA.out i)) Tryz.underlying30 rfl (by rw [Array.length_toList, HSZ.out]; kernel_rfl) ?_)
   | fail)
  try rw [Array.toArray_toList]
  refine (HPATH.out _ (BW.out _ _ HA.out)).mono ?_
  rintro e w4 ⟨rfl, hb4⟩
  have HA2 := h_ (HA.out.step hb4); clear hb4
  go_wp2_with fail
  refine (Hb.ws PA HA2.out (by have := LL.out; simp; omega)).mono ?_
  rintro e w5 ⟨rfl, hbd⟩
  have HA3 := h_ hbd; clear hbd
  have c19 := (CB.out _ _ HA3.out 19).trans h19
  go_upto_if 50 with fail
  go_cut [] from 6 (fun wx => Hid (Hb w1 (sch ++ [58] ++ AH ++ PA ++ QU) wx))
  case first =>
   have hqf := HQF.out
   cases hasQ
   ·have hq2 : QU = [] := hqf
    subst hq2
    go_wp2_with fail
    go_meet
    case rel =>
     show Hb w1 (sch ++ [58] ++ AH ++ PA ++ []) _
     rw [List.append_nil]
     exact HA3.out
   ·have hq2 : QU = [63] ++ q := hqf
    have HQ2 := h_ hq2; clear hq2
    go_wp2_with fail
    refine (Hb.wb1 63 _ rfl HA3.out (by have := LL.out; simp; omega)).mono ?_
    rintro e w20 ⟨rfl, hbd⟩
    have HBD20 := h_ hbd; clear hbd
    have cq := (CB.out _ _ HBD20.out 20).trans h20
    go_wp2_with fail
    refine (Hb.ws q HBD20.out (by have := LL.out; simp; omega)).mono ?_
    rintro e w21 ⟨rfl, hbd⟩
    have HBD21 := h_ hbd; clear hbd
    go_wp2_with fail
    go_meet
    case rel =>
     show Hb w1 (sch ++ [58] ++ AH ++ PA ++ QU) _
     rw [HQ2.out]
     have h := HBD21.out
     simp only [List.append_assoc] at h ⊢
     exact h
  case rest =>
   have HB3 := hcut
   clear hcut c19
   have c21 := (CB.out _ _ HB3.out 21).trans h21
   have hff := HFF.out
   cases hasF <;> cases fr
   case true.true =>
    have hq2 : FR = [35] ++ f := hff
    have HQ2 := h_ hq2; clear hff hq2
    go_wp2_with fail
    refine (Hb.wb1 35 _ rfl HB3.out (by have := LL.out; simp; omega)).mono ?_
    rintro e w20 ⟨rfl, hbd⟩
    have HBD20 := h_ hbd; clear hbd
    have cq := (CB.out _ _ HBD20.out 22).trans h22
    go_wp2_with fail
    refine (Hb.ws f HBD20.out (by have := LL.out; simp; omega)).mono ?_
    rintro e w21 ⟨rfl, hbd⟩
    have HBD21 := h_ hbd; clear hbd
    go_wp2_with fail
    refine (Hb.str HBD21.out).mono ?_
    rintro e w30 ⟨rfl, hb30⟩
    have HB30 := h_ hb30; clear hb30
    go_wp2_with fail
    go_ret
    refine ⟨?_, HB.out.trans (HB30.out.mono HB.out.size)⟩
    rw [HSER.out, HQ2.out]
    simp only [List.append_assoc]
    rfl
   all_goals
    have hq2 : FR = [] := hff
    have HQ2 := h_ hq2; clear hff hq2
    go_wp2_with fail
    refine (Hb.str HB3.out).mono ?_
    rintro e w30 ⟨rfl, hb30⟩
    have HB30 := h_ hb30; clear hb30
    go_wp2_with fail
    go_ret
    refine ⟨?_, HB.out.trans (HB30.out.mono HB.out.size)⟩
    rw [HSER.out, HQ2.out]
    simp only [List.append_nil, List.append_assoc]
    rfl
end Go.Proofs.YtpckaimpjccjhaaGreatDoor
