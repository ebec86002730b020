/- The walk of idna.Domain. -/
import Derived.Test.YtledmlgebfbhaaaDoorIdnI
namespace Go.Proofs.YtledmlgebfbhaaaDoor
open Go.RowKit
set_option maxRecDepth 10000

/-- what a function answers that makes a text, or none and no bytes -/
def RetE (w : World) (o : Option Bytes) : Ending → World → Prop := fun e w' => e = .returned (.tuple #[S (o.getD []), .bool o.isSome]) ∧ Below w.heap.size w w'
theorem RetE.none {w w' : World} {o : Option Bytes} (h : o = none) (hb : Below w.heap.size w w') : RetE w o (.returned (.tuple #[S [], .bool false])) w' := by subst h; exact ⟨rfl, hb⟩
theorem RetE.some {w w' : World} {o : Option Bytes} {x : Bytes} {s : ByteArray} (h : o = some x) (hs : s = bs x) (hb : Below w.heap.size w w') : RetE w o (.returned (.tuple #[.string s, .bool true])) w' := by subst h; subst hs; exact ⟨rfl, hb⟩
theorem own_strs (w : World) (base e : Nat) (ps : List Bytes) (hb : base ≤ w.heap.size) (hl : ps.length ≤ 1000000) :
    (w.alloc (.cells (Strs ps).toArray e)).ownsRow base e 1 (.slice (some ⟨w.heap.size, 0, none⟩) ps.length ps.length) ps.length (Strs ps) :=
  ⟨by simp, .inr ⟨w.heap.size, ps.length, _, rfl, hb, heap_alloc_new w _, Nat.le_refl _, by unfold maxLen; omega, by simp, List.take_of_length_le (by simp)⟩⟩
theorem mid_at {α : Type} {f : α → α} {ps : List α} {k : Nat} (h : k < ps.length) : ((ps.take k).map f ++ ps.drop k)[k]? = some ps[k] := by
  have hl : ((ps.take k).map f).length = k := by rw [List.length_map, List.length_take]; omega
  rw [List.getElem?_append_right (by omega), hl, Nat.sub_self, List.getElem?_drop, Nat.add_zero]
  exact List.getElem?_eq_getElem h
theorem mid_set {α : Type} {f : α → α} {ps : List α} {k : Nat} (h : k < ps.length) {y : α} (hy : f ps[k] = y) : ((ps.take k).map f ++ ps.drop k).set k y = (ps.take (k + 1)).map f ++ ps.drop (k + 1) := by
  have hl : ((ps.take k).map f).length = k := by rw [List.length_map, List.length_take]; omega
  rw [List.take_succ_eq_append_getElem h, List.map_append, List.drop_eq_getElem_cons h, List.set_append_right _ _ (by omega), hl, Nat.sub_self, List.append_assoc, ← hy]
  rfl
theorem mid_len {α : Type} {f : α → α} (ps : List α) (k : Nat) : ((ps.take k).map f ++ ps.drop k).length = ps.length := by rw [List.length_append, List.length_map, List.length_take, List.length_drop]; omega

set_option maxHeartbeats 8000000 in
theorem domain_any (b : Bytes) (w : World) (hb : b.length ≤ 300000) (ht : (toldF (signs b)).length ≤ 100000) (hE : Env w) : Calls Tryd.prog 13 #[.string (bs b)] w fun e w' => RetE w (domF b) e w' := by
  have hsg := fun W (h : Below w.heap.size w W) => tsigns b W hb (hE.below h).1
  have hd1 : ∀ x ∈ signs b, (mapF x).2 = 0 → domF b = none := by
    intro x hx h
    obtain ⟨k, hk, rfl⟩ := List.getElem_of_mem hx
    exact dom_1 hk h
  have hd2 := fun (h : (signs b).all okM = true) (p : Bytes) (hp : p ∈ pieces (toldF (signs b))) (h2 : wrF p = none) => dom_2 h hp h2
  have hd3 := fun (h : (signs b).all okM = true) (h2 : (pieces (toldF (signs b))).all okP = true) => dom_3 h h2
  obtain ⟨O, hO⟩ : ∃ O, O = domF b := ⟨_, rfl⟩
  rw [← hO] at hd1 hd2 hd3 ⊢
  clear hO
  have hsl := signs_len _ b (Nat.le_refl _)
  obtain ⟨l, hl⟩ : ∃ l, l = signs b := ⟨_, rfl⟩
  rw [← hl] at hsg hsl ht hd1 hd2 hd3
  clear hl
  obtain ⟨s, hs⟩ : ∃ s, s = bs b := ⟨_, rfl⟩
  rw [← hs] at hsg ⊢
  clear hs
  obtain ⟨L, hL⟩ : ∃ L, L = l.length := ⟨_, rfl⟩
  have hLm : L ≤ 300000 := by omega
  clear hsl hb
  have HSG := Lib.hid hsg; clear hsg
  have HD1 := Lib.hid hd1; clear hd1
  have HD2 := Lib.hid hd2; clear hd2
  have HD3 := Lib.hid hd3; clear hd3
  have HL := Lib.hid hL; clear hL
  have HT := Lib.hid ht; clear ht
  have HEV := Lib.hid hE; clear hE
  go_enter Tryd.func13, Tryd.ntmps13
  go_wp2_with fail
  refine (HSG.out _ ((Below.refl _ _).alloc (Nat.le_refl _) _)).mono ?_
  rintro e w2 ⟨v2, rfl, ho2, hb2⟩
  have hbld := (Bld.fresh w).below hb2
  have HB2 := Lib.hid (((Below.refl _ w).alloc (Nat.le_refl _) _).trans (hb2.mono (by simp))); clear hb2
  have hat : ∀ k (hk : k < l.length), ∃ gs c, v2 = .slice (some ⟨gs, 0, none⟩) L c ∧ w.heap.size < gs ∧ gs < w2.heap.size ∧ w2.cell? ⟨gs, 0 + k, none⟩ = some (.int .i64 l[k]) := by
    intro k hk
    rcases own_where ho2 with ⟨_, h0⟩ | ⟨gs, c, h1, h2, h3, h4⟩
    · have : (I64s l).length = 0 := by rw [h0]; rfl
      rw [List.length_map] at this; omega
    · rw [show (I64s l).length = L by rw [List.length_map, HL.out]] at h1
      refine ⟨gs, c, h1, by simp at h2; omega, h3, ?_⟩
      have := h4 k (by rw [List.length_map]; exact hk)
      simpa using this
  obtain ⟨av, cv, hv⟩ := slice_val (Sl.of_own ho2)
  rw [show (I64s l).length = L by rw [List.length_map, HL.out]] at hv
  subst hv
  clear ho2
  have HAT := Lib.hid hat; clear hat
  have HBL := Lib.hid hbld; clear hbld
  have hz2 : w.heap.size < w2.heap.size := HBL.out.lt
  go_wp2_with fail
  go_loopw [17] (fun iv wr => ∃ (k : Nat) (g : Option Nat), k ≤ L ∧ iv = .int .i64 k ∧ (l.take k).all okM = true ∧ Bld w.heap.size g (toldF (l.take k)) wr ∧ (∀ j, g = some j → w2.heap.size ≤ j) ∧ Fr (fun j => j = w.heap.size) w2 wr) (fun i _ => L - (intOf i).toNat)
  case atStart => exact ⟨0, none, by omega, by simp, by simp, by simpa [toldF] using HBL.out, by simp, Fr.of_below (Below.refl _ _)⟩
  case round =>
    obtain ⟨k, g, hk, rfl, hall, hbd, hg, hfr⟩ := hrel
    have hbw : Below w.heap.size w wr := HB2.out.trans (hfr.below (by omega) (fun j hj => by omega))
    have HA := Lib.hid hall; clear hall
    have HBD := Lib.hid hbd; clear hbd
    have HG := Lib.hid hg; clear hg
    have HF := Lib.hid hfr; clear hfr
    have HBW := Lib.hid hbw; clear hbw
    by_cases hlt : k < L
    · have hx : k < l.length := by have := HL.out; omega
      obtain ⟨gs, c', hav, hgs1, hgs2, hc2⟩ := HAT.out k hx
      obtain ⟨rfl, rfl⟩ : av = some ⟨gs, 0, none⟩ ∧ cv = c' := by injection hav with e1 e2 e3; exact ⟨e1, e3⟩
      have hcell : wr.cell? ⟨gs, 0 + k, none⟩ = some (.int .i64 l[k]) := (World.cell?_of_block (w := w2) (a := ⟨gs, 0 + k, none⟩) (HF.out.block gs hgs2 (by omega))).trans hc2
      rw [Nat.zero_add] at hcell
      clear hav hc2
      have hts := told_snoc hx
      have hok := fun h => all_snoc3 (f := okM) hx HA.out h
      have hbd1 := HD1.out _ (List.getElem_mem hx)
      have hml := map_len l[k]
      have htl := told_len (l.take k)
      rw [List.length_take] at htl
      obtain ⟨x, hxx⟩ : ∃ x, x = l[k] := ⟨_, rfl⟩
      rw [← hxx] at hcell hts hok hbd1 hml
      clear hxx
      have hma := fun W => map_any x W
      have hok2 : (mapF x).2 ≠ 0 → (l.take (k + 1)).all okM = true := fun h => hok (decide_eq_true h)
      clear hok
      obtain ⟨K, hK⟩ : ∃ K, K = (mapF x).2 := ⟨_, rfl⟩
      obtain ⟨B, hB⟩ : ∃ B, B = (mapF x).1 := ⟨_, rfl⟩
      rw [← hB] at hts hml
      rw [← hK] at hbd1 hok2
      rw [← hK, ← hB] at hma
      clear hK hB
      have HMA := Lib.hid hma; clear hma
      have HTS := Lib.hid hts; clear hts
      have HLN : (toldF (l.take k)).length + B.length ≤ 1099511627776 := by omega
      have HLN2 := Lib.hid HLN; clear HLN htl hml
      by_cases hK0 : K = 0
      · have hf := hbd1 hK0
        have HO := Lib.hid hf; clear hf hbd1 hok2
        subst hK0
        go_wp2_with fail
        refine (HMA.out _).mono ?_
        rintro e w3 ⟨rfl, hb3⟩
        have HB3 := Lib.hid (HBW.out.trans (hb3.mono HBW.out.size)); clear hb3
        go_wp2_with fail
        go_ret2
        exact RetE.none HO.out HB3.out
      · have q0 : (K == 0) = false := by simp [hK0]
        have hall2 := hok2 hK0
        have HA2 := Lib.hid hall2; clear hall2 hok2 hbd1 hK0
        go_wp2_with fail
        refine (HMA.out _).mono ?_
        rintro e w3 ⟨rfl, hb3⟩
        have HB3 := Lib.hid hb3; clear hb3
        go_wp2_with fail
        refine (writeString_any B (HBD.out.below HB3.out) HLN2.out).mono ?_
        rintro e w4 ⟨rfl, hrb⟩
        have HRB := Lib.hid hrb; clear hrb
        go_wp2_with fail
        obtain ⟨g', a1, a2, a3⟩ := HRB.out
        have HFR := Lib.hid (fr_step HF.out HB3.out a3 HG.out)
        have HG' : ∀ j, g' = some j → w2.heap.size ≤ j := by
          intro j hj
          rcases a2 with h | ⟨j', h, h'⟩
          · exact HG.out j (h ▸ hj)
          · rw [h] at hj; injection hj with hj
            have := HF.out.size
            have := HB3.out.size
            omega
        have HG2 := Lib.hid HG'; clear HG' a2 a3
        have HA1 := Lib.hid a1; clear a1
        go_roundw
        case rel => exact ⟨k + 1, g', by omega, by simp, HA2.out, by rw [HTS.out]; exact HA1.out, HG2.out, HFR.out⟩
        case measure => simp [intOf]; omega
    · obtain rfl : L = k := by omega
      have hall := HA.out
      have hbd := HBD.out
      rw [List.take_of_length_le (by have := HL.out; omega)] at hall hbd
      have hd2 := HD2.out hall
      have hd3 := HD3.out hall
      have ht := HT.out
      obtain ⟨t, htt⟩ : ∃ t, t = toldF l := ⟨_, rfl⟩
      rw [← htt] at hd2 hd3 ht hbd
      clear htt hall
      have hstr := bstring_any w.heap.size hbd (Nat.le_refl _) (fun j hj => by have := HG.out j hj; omega)
      have HSTR := Lib.hid hstr; clear hstr hbd
      have hpn := pieces_num t
      have hpl := fun p (hp : p ∈ pieces t) => pieces_len hp
      have hsp := fun W (h : Env W) => split_dot t W h (by omega)
      obtain ⟨ps, hps⟩ : ∃ ps, ps = pieces t := ⟨_, rfl⟩
      rw [← hps] at hd2 hd3 hpn hpl hsp
      clear hps
      obtain ⟨N, hN⟩ : ∃ N, N = ps.length := ⟨_, rfl⟩
      rw [← hN] at hpn hsp
      have hNm : N ≤ 100001 := by omega
      clear hpn
      have HN := Lib.hid hN; clear hN
      have HSP := Lib.hid hsp; clear hsp
      have HP2 := Lib.hid hd2; clear hd2
      have HP3 := Lib.hid hd3; clear hd3
      have hpl2 : ∀ p ∈ ps, p.length ≤ 100000 := fun p hp => by have := hpl p hp; omega
      have HPL := Lib.hid hpl2; clear hpl2 hpl ht
      go_wp2_with fail
      refine (HSTR.out).mono ?_
      rintro e w5 ⟨rfl, hb5⟩
      have HB5 := Lib.hid (HBW.out.trans hb5); clear hb5
      go_wp2_with fail
      refine (HSP.out _ (HEV.out.below HB5.out)).mono ?_
      rintro e w6 ⟨rfl, hw6⟩
      have hown : w6.ownsRow w.heap.size 9 1 (.slice (some ⟨w5.heap.size, 0, none⟩) N N) N (Strs ps) := by
        rw [hw6, HN.out]
        exact own_strs w5 w.heap.size _ ps HB5.out.size (by have := HN.out; omega)
      have hb6 : Below w.heap.size w w6 := by rw [hw6]; exact HB5.out.alloc HB5.out.size _
      have hgS : w.heap.size ≤ w5.heap.size := HB5.out.size
      clear hw6
      obtain ⟨gS, hgg⟩ : ∃ gS, gS = w5.heap.size := ⟨_, rfl⟩
      rw [← hgg] at hown hgS ⊢
      clear hgg
      have HOW := Lib.hid hown; clear hown
      have HB6 := Lib.hid hb6; clear hb6
      clear HBW HB5 HF HG HBD HA HSTR
      go_wp2_with fail
      go_loopw [35] (fun iv wr => ∃ (k : Nat), k ≤ N ∧ iv = .int .i64 k ∧ (ps.take k).all okP = true ∧ wr.ownsRow w.heap.size 9 1 (.slice (some ⟨gS, 0, none⟩) N N) N (Strs ((ps.take k).map outP ++ ps.drop k)) ∧ Below w.heap.size w wr) (fun i _ => N - (intOf i).toNat)
      case atStart => exact ⟨0, by omega, by simp, by simp, by simpa using HOW.out, HB6.out⟩
      case round =>
        obtain ⟨k, hk, rfl, hall, hown, hbl⟩ := hrel
        have HA := Lib.hid hall; clear hall
        have HO := Lib.hid hown; clear hown
        have HB := Lib.hid hbl; clear hbl
        by_cases hlt2 : k < N
        · have hx : k < ps.length := by have := HN.out; omega
          have hcell : wr.cell? ⟨gS, k, none⟩ = some (.string (bs ps[k])) := by
            have := HO.out.cells (g := gS) rfl k (.string (bs ps[k])) (by rw [List.getElem?_map, mid_at hx]; rfl)
            rwa [addr_add, Nat.zero_add] at this
          have hmem : ps[k] ∈ ps := List.getElem_mem hx
          have hwt := written_any ps[k] wr (HPL.out _ hmem) (HEV.out.below HB.out).1
          have hbd := HP2.out ps[k] hmem
          have hok : okP ps[k] = true → (ps.take (k + 1)).all okP = true := fun h => by
            rw [List.take_succ_eq_append_getElem hx, List.all_append, HA.out]; simp [h]
          have hset := fun y h => mid_set (f := outP) hx (y := y) h
          obtain ⟨p, hp⟩ : ∃ p, p = ps[k] := ⟨_, rfl⟩
          rw [← hp] at hcell hwt hbd hok hset
          clear hp hmem hx
          have HWT := Lib.hid hwt; clear hwt
          have HBAD := Lib.hid hbd; clear hbd
          have HOK := Lib.hid hok; clear hok
          have HSET := Lib.hid hset; clear hset
          cases hw : wrF p with
          | none =>
            have HNO := Lib.hid (HBAD.out hw)
            rw [hw] at HWT
            clear hw
            go_wp2_with fail
            refine (HWT.out).mono ?_
            rintro e w7 ⟨x, rfl, _, hb7⟩
            have HB7 := Lib.hid (HB.out.trans (hb7.mono HB.out.size)); clear hb7
            go_wp2_with fail
            go_ret2
            exact RetE.none HNO.out HB7.out
          | some y =>
            have hy1 : outP p = y := by unfold outP; rw [hw]; rfl
            have hy2 : okP p = true := by unfold okP; rw [hw]; rfl
            have HY1 := Lib.hid (HSET.out y hy1)
            have HY2 := Lib.hid (HOK.out hy2)
            rw [hw] at HWT
            clear hw hy1 hy2
            go_wp2_with fail
            refine (HWT.out).mono ?_
            rintro e w7 ⟨x, rfl, hx, hb7⟩
            obtain rfl : x = y := hx y rfl
            clear hx
            have ho7 := own_below HO.out hb7
            have HB7 := Lib.hid (HB.out.trans (hb7.mono HB.out.size))
            have hcell7 : w7.cell? ⟨gS, k, none⟩ = some (.string (bs p)) := by
              rw [hb7.cell (p := ⟨gS, k, none⟩) (block_lt_of_cell hcell)]; exact hcell
            have hfz7 := ho7.frozenAt k
            have hst := ho7.stored k (.string (bs x))
            have hset2 : (Strs ((ps.take k).map outP ++ ps.drop k)).set k (.string (bs x)) = Strs ((ps.take (k + 1)).map outP ++ ps.drop (k + 1)) := by
              rw [← HY1.out]
              exact (List.map_set (f := fun b => Value.string (bs b))).symm
            have HST := Lib.hid (hset2 ▸ hst.1); clear hst hset2 ho7 hb7
            go_wp2_with fail
            go_roundw
            case rel => exact ⟨k + 1, by omega, by simp, HY2.out, HST.out, HB7.out.setCell hgS _⟩
            case measure => simp [intOf]; omega
        · obtain rfl : N = k := by omega
          have hall := HA.out
          have hown := HO.out
          rw [List.take_of_length_le (by have := HN.out; omega)] at hall hown
          rw [List.drop_of_length_le (by have := HN.out; omega), List.append_nil] at hown
          have hno := HP3.out hall
          have HNO := Lib.hid hno; clear hno hall
          have hml : (ps.map outP).length = N := by rw [List.length_map, HN.out]
          have hcs : ∀ j (hj : j < (ps.map outP).length), wr.cell? ⟨gS, 0 + j, none⟩ = some (.string (bs (ps.map outP)[j])) := by
            intro j hj
            have := hown.cells (g := gS) rfl j (.string (bs (ps.map outP)[j])) (by rw [List.getElem?_map, List.getElem?_eq_getElem hj]; rfl)
            rwa [addr_add] at this
          have hglt := (hown.lt gS rfl).2
          have hmx : ∀ q ∈ ps.map outP, q.length ≤ 1000000 := by
            intro q hq
            obtain ⟨p, hp, rfl⟩ := List.mem_map.mp hq
            have h1 := out_len p
            have h2 := HPL.out p hp
            omega
          have hjn := join_dots gS N N (ps.map outP) wr hcs hglt hml.symm (Nat.le_refl _) (by omega) hmx
          have HJN := Lib.hid hjn; clear hjn hcs hmx hml hown
          go_wp2_with fail
          refine (HJN.out).mono ?_
          rintro e w8 ⟨rfl, hb8⟩
          have HB8 := Lib.hid (HB.out.trans (hb8.mono HB.out.size)); clear hb8
          go_wp2_with fail
          go_ret2
          exact RetE.some HNO.out rfl HB8.out
end Go.Proofs.YtledmlgebfbhaaaDoor
