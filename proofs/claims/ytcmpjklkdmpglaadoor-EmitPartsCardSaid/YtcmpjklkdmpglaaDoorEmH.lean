/- Values as they are written: emit.Write. -/
import Derived.Test.YtcmpjklkdmpglaaDoorEmG
namespace Go.Proofs.YtcmpjklkdmpglaaDoor
open Go.RowKit
set_option maxRecDepth 10000

def firstF (l : List Itm) : Bytes := match l with | [] => [] | i :: _ => serF i.url true
def bodyF (k : Int) (l : List Itm) (d : Bytes) : Bytes := if k = 1 then firstF l else if k = 2 then listF l else if k = 3 then rfF d true (firstF l) else []
def writeF (k : Int) (l : List Itm) (d : Bytes) : Bytes := if l = [] then [] else escB (bodyF k l d)
theorem escB_nil : escB [] = [] := rfl

set_option maxHeartbeats 16000000 in
theorem ewrite_any (kind : Int) (l : List Itm) (v : Value) (d : Bytes) (w : World) (h : Items w.heap.size w v l) (hs : ∀ i ∈ l, ItmSm i) (hn : l.length ≤ 20) (hd : d.length ≤ 1000) (hE : NE w) :
    Calls Tryd.prog 10 #[.int .i64 kind, .agg #[v, S d]] w fun e w' => e = .returned (S (writeF kind l d)) ∧ Below w.heap.size w w' := by
  have hok := items_ok h
  have hlist := fun (W : World) (hW : Below w.heap.size w W) => elist_any l v W ((h.below hW).more hW.size) hs hn (hE.below hW)
  have hesc := fun (x : Bytes) (W : World) (hx : x.length ≤ 1000000000) => escape_any x W hx
  have hll := listF_len l hok hs
  obtain ⟨av, cc, hv⟩ := items_val h
  subst hv
  have HLIST := Lib.hid hlist; clear hlist
  have HESC := Lib.hid hesc; clear hesc
  cases l with
  | nil =>
    go_enter Tryd.func10, Tryd.ntmps10
    go_wp2_with fail
    go_ret
    exact ⟨rfl, (Below.refl _ _).alloc (Nat.le_refl _) _⟩
  | cons it r =>
    obtain ⟨b, o, rfl, hbb, hat⟩ := items_at h 0 (by simp)
    simp only [List.getElem_cons_zero, Nat.zero_mul, Nat.add_zero] at hat
    obtain ⟨pv, wv, hrg, hoki, hpv, hwv⟩ := hat
    have hsm := hs it List.mem_cons_self
    have hau : UrlAt (urlCells pv it.url).toArray pv it.url := urlAt_of pv hoki
    have huc := urlCells_len pv it.url hoki
    have hser := fun (W : World) (hW : Below w.heap.size w W) => swr_any it.url _ pv true W hau ((hpv.below hW).more hW.size) hsm.url (hE.below hW)
    have hsl := serF_len it.url hoki hsm.url true
    have hrgu : ∀ W, Below w.heap.size w W → W.rangeAt b (o + 1) (urlCells pv it.url) := fun W hW j v hj => (hW.cell (p := ⟨b, o + 1 + j, none⟩) hbb).trans (itm_url hrg j v hj)
    have hw : writeF kind (it :: r) d = escB (bodyF kind (it :: r) d) := rfl
    have hbd : bodyF kind (it :: r) d = if kind = 1 then serF it.url true else if kind = 2 then listF (it :: r) else if kind = 3 then rfF d true (serF it.url true) else [] := rfl
    obtain ⟨N, hN⟩ : ∃ N, N = (it :: r).length := ⟨_, rfl⟩
    have hN0 : (0 : Int) < N := by rw [hN, List.length_cons]; omega
    have hN1 : ¬ (N : Int) = 0 := by omega
    rw [← hN] at hll HLIST ⊢
    have hll2 : (listF (it :: r)).length ≤ 1000000000 := by omega
    have hrl : (rfF d true (serF it.url true)).length ≤ 1000000000 := by
      simp only [rfF, if_true, List.length_append, List.length_cons, List.length_nil]; omega
    generalize listF (it :: r) = LI at *
    generalize writeF kind (it :: r) d = WR at *
    generalize bodyF kind (it :: r) d = BO at *
    generalize serF it.url true = SE at *
    have hrf := fun W => rfw_any d SE true W (by omega) (by omega)
    generalize rfF d true SE = RF at *
    have HSER := Lib.hid hser
    have HRG := Lib.hid hrgu
    have HUC := Lib.hid huc
    have HRF := Lib.hid hrf
    have HW := Lib.hid hw
    have HBD := Lib.hid hbd
    clear hser hrgu huc hrf hw hbd h hs hn hE hok hrg hoki hpv hwv hsm hau hN hll
    have hbel : ∀ o, Below w.heap.size w (w.alloc o) := fun o => (Below.refl w.heap.size w).alloc (Nat.le_refl _) o
    have HBEL := Lib.hid hbel; clear hbel
    by_cases k1 : kind = 1
    · have hbd := HBD.out
      rw [if_pos k1] at hbd
      have hw := HW.out
      rw [hbd] at hw
      have HW2 := Lib.hid hw
      clear hbd hw
      go_enter Tryd.func10, Tryd.ntmps10
      go_wp2_with (first
        | (refine wpList_load_mid rfl 32 _ rfl b (o + 1) rfl (urlCells pv it.url) _ (HRG.out _ (HBEL.out _)) Tryd.underlying32 rfl (by rw [HUC.out]; kernel_rfl) ?_)
        | (go_at_call 12; refine (HSER.out _ (HBEL.out _)).mono ?_; rintro e w2 ⟨rfl, hb2⟩; have HB2 := Lib.hid ((HBEL.out _).trans (hb2.mono (HBEL.out _).size)); clear hb2)
        | (go_at_call 18; refine (HESC.out SE _ (by omega)).mono ?_; rintro e w3 ⟨rfl, hb3⟩; have HB3 := Lib.hid (HB2.out.trans (hb3.mono HB2.out.size)); clear hb3)
        | fail)
      go_ret
      exact ⟨by rw [HW2.out]; rfl, HB3.out⟩
    by_cases k2 : kind = 2
    · have hbd := HBD.out
      rw [if_neg k1, if_pos k2] at hbd
      have hw := HW.out
      rw [hbd] at hw
      have HW2 := Lib.hid hw
      clear hbd hw
      go_enter Tryd.func10, Tryd.ntmps10
      go_wp2_with (first
        | (go_at_call 19; refine (HLIST.out _ (HBEL.out _)).mono ?_; rintro e w2 ⟨rfl, hb2⟩; have HB2 := Lib.hid ((HBEL.out _).trans (hb2.mono (HBEL.out _).size)); clear hb2)
        | (go_at_call 18; refine (HESC.out LI _ hll2).mono ?_; rintro e w3 ⟨rfl, hb3⟩; have HB3 := Lib.hid (HB2.out.trans (hb3.mono HB2.out.size)); clear hb3)
        | fail)
      go_ret
      exact ⟨by rw [HW2.out]; rfl, HB3.out⟩
    by_cases k3 : kind = 3
    · have hbd := HBD.out
      rw [if_neg k1, if_neg k2, if_pos k3] at hbd
      have hw := HW.out
      rw [hbd] at hw
      have HW2 := Lib.hid hw
      have hcd : ∀ W, Below (w.heap.size + 1) (w.alloc (.cells #[.slice (some ⟨b, o, none⟩) N cc, S d] 24)) W → W.cell? ⟨w.heap.size, 1, none⟩ = some (S d) := fun W hW => by
        rw [hW.cell (p := ⟨w.heap.size, 1, none⟩) (by simp)]
        rw [World.cell?_alloc_mark]; rfl
      have HCD := Lib.hid hcd
      clear hbd hw hcd
      go_enter Tryd.func10, Tryd.ntmps10
      go_wp2_with (first
        | (refine wpList_load_mid rfl 32 _ rfl b (o + 1) rfl (urlCells pv it.url) _ (HRG.out _ (HBEL.out _)) Tryd.underlying32 rfl (by rw [HUC.out]; kernel_rfl) ?_)
        | (go_at_call 12; refine (HSER.out _ (HBEL.out _)).mono ?_; rintro e w2 ⟨rfl, hb2⟩; have c1 := HCD.out _ (hb2.mono (by simp)); have HB2 := Lib.hid ((HBEL.out _).trans (hb2.mono (HBEL.out _).size)); clear hb2)
        | (go_at_call 20; refine (HRF.out _).mono ?_; rintro e w4 ⟨rfl, hb4⟩; have HB4 := Lib.hid (HB2.out.trans (hb4.mono HB2.out.size)); clear hb4)
        | (go_at_call 18; refine (HESC.out RF _ hrl).mono ?_; rintro e w3 ⟨rfl, hb3⟩; have HB3 := Lib.hid (HB4.out.trans (hb3.mono HB4.out.size)); clear hb3)
        | fail)
      go_ret
      exact ⟨by rw [HW2.out]; rfl, HB3.out⟩
    have hbd := HBD.out
    rw [if_neg k1, if_neg k2, if_neg k3] at hbd
    have hw := HW.out
    rw [hbd, escB_nil] at hw
    have HW2 := Lib.hid hw
    clear hbd hw
    go_enter Tryd.func10, Tryd.ntmps10
    go_wp2_with fail
    go_ret
    exact ⟨by rw [HW2.out]; rfl, HBEL.out _⟩
end Go.Proofs.YtcmpjklkdmpglaaDoor
