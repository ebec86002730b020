/- The walk of EmitTells. -/
import Derived.Test.YtcmpjklkdmpglaaDoorEmK
import Derived.Test.YtcmpjklkdmpglaaDoorReg
namespace Go.Proofs.YtcmpjklkdmpglaaDoor
open Go.RowKit
set_option maxRecDepth 10000

set_option maxHeartbeats 16000000 in
theorem emitTells_walk (kind : Int) (v : Value) (l : List Itm) (d : Bytes) (pv : Value) (u : Url) (w : World) (h : Items w.heap.size w v l) (ok : UrlOk u) (hp : Sl w.heap.size w pv (u.path.map S)) (hE : NE w) :
    Calls Tryd.prog 3 #[.int .i64 kind, .agg #[v, S d], .agg (urlCells pv u).toArray] w fun e w' => e = .returned (.bool true) ∧ Below w.heap.size w w' := by
  obtain ⟨av, cc, hv⟩ := items_val h
  subst hv
  have hau : UrlAt (urlCells pv u).toArray pv u := urlAt_of pv ok
  have huc := urlCells_len pv u ok
  have hiu : (Tryd.prog.info? 32).map (·.size) = some (urlCells pv u).length := by rw [huc]; kernel_rfl
  have hsm := fun (W : World) (hW : Below w.heap.size w W) => small25_any W (hE.below hW)
  have hfr := fun (W : World) (hW : Below w.heap.size w W) => few25_any l _ d W ((h.below hW).more hW.size)
  have hfu := fun (W : World) (hW : Below w.heap.size w W) => few12_any u _ pv W hau ((hp.below hW).more hW.size)
  obtain ⟨F, hF⟩ : ∃ F, F = fitsF (serF u true) := ⟨_, rfl⟩
  obtain ⟨WR, hWR⟩ : ∃ WR, WR = writeF kind l d := ⟨_, rfl⟩
  have hf1 : UrlFew u → ∀ W, Below w.heap.size w W → Calls Tryd.prog 8 #[.agg (urlCells pv u).toArray] W fun e w' => e = .returned (.bool F) ∧ Below W.heap.size W w' := fun hs W hW => hF ▸ fits_any u _ pv W hau ((hp.below hW).more hW.size) hs.sm (hE.below hW)
  have hf2 : UrlFew u → ∀ W, Below w.heap.size w W → Calls Tryd.prog 9 #[.agg (urlCells pv u).toArray] W fun e w' => e = .returned (.bool F) ∧ Below W.heap.size W w' := fun hs W hW => hF ▸ rfits_any u _ pv W hau ((hp.below hW).more hW.size) hs.sm
  have hw1 : RdFew l d → ∀ W, Below w.heap.size w W → Calls Tryd.prog 10 #[.int .i64 kind, .agg #[.slice av l.length cc, S d]] W fun e w' => e = .returned (S WR) ∧ Below W.heap.size W w' := fun hs W hW => hWR ▸ ewrite_any kind l _ d W ((h.below hW).more hW.size) (fun i hi => (hs.i i hi).sm) hs.n (by have := hs.d; omega) (hE.below hW)
  have hw2 : RdFew l d → ∀ W, Below w.heap.size w W → Calls Tryd.prog 11 #[.int .i64 kind, .agg #[.slice av l.length cc, S d]] W fun e w' => e = .returned (S WR) ∧ Below W.heap.size W w' := fun hs W hW => hWR ▸ rewrite25_any kind l _ d W ((h.below hW).more hW.size) (fun i hi => (hs.i i hi).sm) hs.n (by have := hs.d; omega)
  have HIU := Lib.hid hiu
  have HUC := Lib.hid huc
  have HSM := Lib.hid hsm
  have HFR := Lib.hid hfr
  have HFU := Lib.hid hfu
  have HG1 := Lib.hid hf1
  have HG2 := Lib.hid hf2
  have HX1 := Lib.hid hw1
  have HX2 := Lib.hid hw2
  clear h ok hp hE hau huc hiu hsm hfr hfu hf1 hf2 hw1 hw2 hF hWR
  go_enter Tryd.func3, Tryd.ntmps3
  go_upto_region 1 with (first
    | (refine boxed rfl _ _ rfl (urlCells pv u).toArray rfl ?_; intro bu w2 hb1 hb2 hb3 hb4 hb5; have HC := Lib.hid hb4; have HB := Lib.hid hb5; have HBU := Lib.hid hb2; clear hb1 hb2 hb3 hb4 hb5)
    | fail)
  have hB2 : Below w.heap.size w w2 := (bel_new w (.cells #[.slice av l.length cc, S d] 24)).trans (Below.mono (B' := w.heap.size) HB.out (by simp))
  have hru : ∀ W, Below w2.heap.size w2 W → W.rangeAt bu 0 (urlCells pv u) := fun W hW j x hj => by
    rw [Nat.zero_add, hW.cell (p := ⟨bu, j, none⟩) HBU.out, HC.out j, List.getElem?_toArray]; exact hj
  have hrr : ∀ W, Below w2.heap.size w2 W → W.rangeAt w.heap.size 0 [.slice av l.length cc, S d] := fun W hW j x hj => by
    have hs := HB.out.size
    have e : (w.alloc (.cells #[.slice av l.length cc, S d] 24)).heap.size = w.heap.size + 1 := by simp
    rw [hW.cell (p := ⟨w.heap.size, 0 + j, none⟩) (by simp at hs ⊢; omega), HB.out.cell (p := ⟨w.heap.size, 0 + j, none⟩) (by simp), World.cell?_alloc_mark, Nat.zero_add]
    rw [show (#[.slice av l.length cc, S d] : Array Value) = [.slice av l.length cc, S d].toArray from rfl, List.getElem?_toArray]; exact hj
  have HB2 := Lib.hid hB2
  have HRU2 := Lib.hid hru
  have HRR2 := Lib.hid hrr
  clear hB2 hru hrr HC HB HBU
  go_upto_region 2 with (first
    | (go_at_call 5; refine (HSM.out _ HB2.out).mono ?_; rintro e w3 ⟨rfl, hb3⟩; have HB3 := Lib.hid hb3; clear hb3)
    | fail)
  go_upto_region 3 with (first
    | (refine wpList_load_mid rfl 24 (.tmp 4) rfl w.heap.size 0 rfl [.slice av l.length cc, S d] _ (HRR2.out _ HB3.out) Tryd.underlying24 rfl (by kernel_rfl) ?_)
    | (go_at_call 6; refine (HFR.out _ (HB2.out.trans (HB3.out.mono HB2.out.size))).mono ?_; rintro e w4 ⟨⟨b1, rfl, hg1⟩, hb4⟩; have HGA := Lib.hid hg1; have HB4 := Lib.hid (HB3.out.trans (hb4.mono HB3.out.size)); clear hb4 hg1)
    | fail)
  go_upto_region 4 with (first
    | (refine wpList_load_mid rfl 32 (.tmp 5) rfl bu 0 rfl (urlCells pv u) _ (HRU2.out _ HB4.out) Tryd.underlying32 rfl HIU.out ?_)
    | (go_at_call 7; refine (HFU.out _ (HB2.out.trans (HB4.out.mono HB2.out.size))).mono ?_; rintro e w5 ⟨⟨b2, rfl, hg2⟩, hb5⟩; have HGB := Lib.hid hg2; have HB5' := Lib.hid (HB4.out.trans (hb5.mono HB4.out.size)); clear hb5 hg2)
    | fail)
  have HB5 := Lib.hid (HB2.out.trans (HB5'.out.mono HB2.out.size))
  have HRU := Lib.hid (fun (W : World) (hW : Below w5.heap.size w5 W) => HRU2.out W (HB5'.out.trans (hW.mono HB5'.out.size)))
  have HRR := Lib.hid (fun (W : World) (hW : Below w5.heap.size w5 W) => HRR2.out W (HB5'.out.trans (hW.mono HB5'.out.size)))
  cases b1
  · go_wp2_with fail
    go_ret
    exact ⟨rfl, HB5.out⟩
  cases b2
  · go_wp2_with fail
    go_ret
    exact ⟨rfl, HB5.out⟩
  have HF1 := Lib.hid (HG1.out (HGB.out rfl))
  have HF2 := Lib.hid (HG2.out (HGB.out rfl))
  have HW1 := Lib.hid (HX1.out (HGA.out rfl))
  have HW2 := Lib.hid (HX2.out (HGA.out rfl))
  go_upto_region 6 with fail
  refine wp_region_held_drew (S := fun W => Below w5.heap.size w5 W) (by kernel_rfl) (by first | exact bz_drew (bz_refl _) | assumption | exact bz_step (by assumption) (by assumption) | exact bz_drew (by assumption)) (fun hHeld => ?_)
  refine tk 0 (v := ?_) rfl (by kernel_rfl) (by kernel_rfl) (by kernel_rfl) (fun _ _ _ h => h) (by rfl) (by assumption) (fun wS hSw => ?_) ?_
  rotate_left
  · (try dsimp only at hSw); go_simp; first | done | with_reducible rfl   -- move
  try simp only [Act.put, List.setIfInBounds_toArray, List.set_cons_zero, List.set_cons_succ]
  refine tk 1 (v := ?_) rfl (by kernel_rfl) (by kernel_rfl) (by kernel_rfl) (fun _ _ _ h => h) (by rfl) (by assumption) (fun wS hSw => ?_) ?_
  rotate_left
  · (try dsimp only at hSw); go_simp; first | done | with_reducible rfl   -- move
  try simp only [Act.put, List.setIfInBounds_toArray, List.set_cons_zero, List.set_cons_succ]
  refine tk 2 (v := ?_) rfl (by kernel_rfl) (by kernel_rfl) (by kernel_rfl) (fun _ _ _ h => h) (by rfl) (by assumption) (fun wS hSw => ?_) ?_
  rotate_left
  · (try dsimp only at hSw)   -- load
    refine load_exec (v := .agg (urlCells pv u).toArray) (ty := 32) (x := .tmp 5) ?_ (.pointer (some ⟨bu, 0, none⟩)) ?_ ?_
    · rfl
    · rfl
    · exact run_loadAt_mid _ bu 0 32 (urlCells pv u) _ (HRU.out _ hSw) Tryd.underlying32 rfl HIU.out
  try simp only [Act.put, List.setIfInBounds_toArray, List.set_cons_zero, List.set_cons_succ]
  refine tk 4 (v := ?_) rfl (by kernel_rfl) (by kernel_rfl) (by kernel_rfl) (fun _ _ _ h => h) (by rfl) (by assumption) (fun wS hSw => ?_) ?_
  rotate_left
  · (try dsimp only at hSw)   -- load
    refine load_exec (v := .agg (urlCells pv u).toArray) (ty := 32) (x := .tmp 5) ?_ (.pointer (some ⟨bu, 0, none⟩)) ?_ ?_
    · rfl
    · rfl
    · exact run_loadAt_mid _ bu 0 32 (urlCells pv u) _ (HRU.out _ hSw) Tryd.underlying32 rfl HIU.out
  try simp only [Act.put, List.setIfInBounds_toArray, List.set_cons_zero, List.set_cons_succ]
  refine rn 3 (by kernel_rfl) rfl (by rfl) (fun K hK => ?_)
  go_simp   -- 3: call of tamis/emit.Fits
  refine (HF1.out _ (HB5.out.drew)).mono ?_
  rintro e x1 ⟨rfl, hb⟩
  have hB1 : Below w5.heap.size w5 x1 := (Below.refl w5.heap.size w5).drew.trans hb
  clear hb
  dsimp only
  refine hK.out _ _ ?_ (fun hHeld => ?_)
  · first | exact bz_drew (bz_refl _) | assumption | exact bz_step (by assumption) (by assumption) | exact bz_drew (by assumption)
  clear hK K
  try simp only [Act.put, List.setIfInBounds_toArray, List.set_cons_zero, List.set_cons_succ]
  refine rn 5 (by kernel_rfl) rfl (by rfl) (fun K hK => ?_)
  go_simp   -- 5: call of tamis/tamisref25.Fits
  refine (HF2.out _ (HB5.out.trans (hB1.mono HB5.out.size))).mono ?_
  rintro e x2 ⟨rfl, hb⟩
  have hB2 : Below w5.heap.size w5 x2 := hB1.trans (hb.mono hB1.size)
  clear hb
  dsimp only
  refine hK.out _ _ ?_ (fun hHeld => ?_)
  · first | exact bz_drew (bz_refl _) | assumption | exact bz_step (by assumption) (by assumption) | exact bz_drew (by assumption)
  clear hK K
  try simp only [Act.put, List.setIfInBounds_toArray, List.set_cons_zero, List.set_cons_succ]
  refine tk 6 (v := ?_) rfl (by kernel_rfl) (by kernel_rfl) (by kernel_rfl) (fun _ _ _ h => h) (by rfl) (by assumption) (fun wS hSw => ?_) ?_
  rotate_left
  · (try dsimp only at hSw); go_simp; first | done | with_reducible rfl   -- binOp
  try simp only [Act.put, List.setIfInBounds_toArray, List.set_cons_zero, List.set_cons_succ]
  refine tk 7 (v := ?_) rfl (by kernel_rfl) (by kernel_rfl) (by kernel_rfl) (fun _ _ _ h => h) (by rfl) (by assumption) (fun wS hSw => ?_) ?_
  rotate_left
  · (try dsimp only at hSw); go_simp; first | done | with_reducible rfl   -- pick
  try simp only [Act.put, List.setIfInBounds_toArray, List.set_cons_zero, List.set_cons_succ]
  refine tk 8 (v := ?_) rfl (by kernel_rfl) (by kernel_rfl) (by kernel_rfl) (fun _ _ _ h => h) (by rfl) (by assumption) (fun wS hSw => ?_) ?_
  rotate_left
  · (try dsimp only at hSw); go_simp; first | done | with_reducible rfl   -- move
  try simp only [Act.put, List.setIfInBounds_toArray, List.set_cons_zero, List.set_cons_succ]
  refine tk 9 (v := ?_) rfl (by kernel_rfl) (by kernel_rfl) (by kernel_rfl) (fun _ _ _ h => h) (by rfl) (by assumption) (fun wS hSw => ?_) ?_
  rotate_left
  · (try dsimp only at hSw); go_simp; first | done | with_reducible rfl   -- move
  try simp only [Act.put, List.setIfInBounds_toArray, List.set_cons_zero, List.set_cons_succ]
  refine tk 10 (v := ?_) rfl (by kernel_rfl) (by kernel_rfl) (by kernel_rfl) (fun _ _ _ h => h) (by rfl) (by assumption) (fun wS hSw => ?_) ?_
  rotate_left
  · (try dsimp only at hSw)   -- load
    refine load_exec (v := .agg [.slice av l.length cc, S d].toArray) (ty := 24) (x := .tmp 4) ?_ (.pointer (some ⟨w.heap.size, 0, none⟩)) ?_ ?_
    · rfl
    · rfl
    · exact run_loadAt_mid _ w.heap.size 0 24 [.slice av l.length cc, S d] _ (HRR.out _ hSw) Tryd.underlying24 rfl (by kernel_rfl)
  try simp only [Act.put, List.setIfInBounds_toArray, List.set_cons_zero, List.set_cons_succ]
  refine tk 12 (v := ?_) rfl (by kernel_rfl) (by kernel_rfl) (by kernel_rfl) (fun _ _ _ h => h) (by rfl) (by assumption) (fun wS hSw => ?_) ?_
  rotate_left
  · (try dsimp only at hSw); go_simp; first | done | with_reducible rfl   -- move
  try simp only [Act.put, List.setIfInBounds_toArray, List.set_cons_zero, List.set_cons_succ]
  refine tk 13 (v := ?_) rfl (by kernel_rfl) (by kernel_rfl) (by kernel_rfl) (fun _ _ _ h => h) (by rfl) (by assumption) (fun wS hSw => ?_) ?_
  rotate_left
  · (try dsimp only at hSw)   -- load
    refine load_exec (v := .agg [.slice av l.length cc, S d].toArray) (ty := 24) (x := .tmp 4) ?_ (.pointer (some ⟨w.heap.size, 0, none⟩)) ?_ ?_
    · rfl
    · rfl
    · exact run_loadAt_mid _ w.heap.size 0 24 [.slice av l.length cc, S d] _ (HRR.out _ hSw) Tryd.underlying24 rfl (by kernel_rfl)
  try simp only [Act.put, List.setIfInBounds_toArray, List.set_cons_zero, List.set_cons_succ]
  refine rn 11 (by kernel_rfl) rfl (by rfl) (fun K hK => ?_)
  go_simp   -- 11: call of tamis/emit.Write
  refine (HW1.out _ (HB5.out.trans (hB2.mono HB5.out.size))).mono ?_
  rintro e x3 ⟨rfl, hb⟩
  have hB3 : Below w5.heap.size w5 x3 := hB2.trans (hb.mono hB2.size)
  clear hb
  dsimp only
  refine hK.out _ _ ?_ (fun hHeld => ?_)
  · first | exact bz_drew (bz_refl _) | assumption | exact bz_step (by assumption) (by assumption) | exact bz_drew (by assumption)
  clear hK K
  try simp only [Act.put, List.setIfInBounds_toArray, List.set_cons_zero, List.set_cons_succ]
  refine rn 14 (by kernel_rfl) rfl (by rfl) (fun K hK => ?_)
  go_simp   -- 14: call of tamis/tamisref25.Write
  refine (HW2.out _ (HB5.out.trans (hB3.mono HB5.out.size))).mono ?_
  rintro e x4 ⟨rfl, hb⟩
  have hB4 : Below w5.heap.size w5 x4 := hB3.trans (hb.mono hB3.size)
  clear hb
  dsimp only
  refine hK.out _ _ ?_ (fun hHeld => ?_)
  · first | exact bz_drew (bz_refl _) | assumption | exact bz_step (by assumption) (by assumption) | exact bz_drew (by assumption)
  clear hK K
  try simp only [Act.put, List.setIfInBounds_toArray, List.set_cons_zero, List.set_cons_succ]
  refine tk 15 (v := ?_) rfl (by kernel_rfl) (by kernel_rfl) (by kernel_rfl) (fun _ _ _ h => h) (by rfl) (by assumption) (fun wS hSw => ?_) ?_
  rotate_left
  · (try dsimp only at hSw); go_simp; first | done | with_reducible rfl   -- binOp
  try simp only [Act.put, List.setIfInBounds_toArray, List.set_cons_zero, List.set_cons_succ]
  refine tk 16 (v := ?_) rfl (by kernel_rfl) (by kernel_rfl) (by kernel_rfl) (fun _ _ _ h => h) (by rfl) (by assumption) (fun wS hSw => ?_) ?_
  rotate_left
  · (try dsimp only at hSw); go_simp; first | done | with_reducible rfl   -- pick
  try simp only [Act.put, List.setIfInBounds_toArray, List.set_cons_zero, List.set_cons_succ]
  refine tk 17 (v := ?_) rfl (by kernel_rfl) (by kernel_rfl) (by kernel_rfl) (fun _ _ _ h => h) (by rfl) (by assumption) (fun wS hSw => ?_) ?_
  rotate_left
  · (try dsimp only at hSw); go_simp; first | done | with_reducible rfl   -- assign
  try simp only [Act.put, List.setIfInBounds_toArray, List.set_cons_zero, List.set_cons_succ]
  refine wpAnyH_done (by kernel_rfl) ?_ _
  go_wp2_with fail
  go_ret
  exact ⟨ret1_bool (by simp), HB5.out.trans (hB4.mono HB5.out.size)⟩
end Go.Proofs.YtcmpjklkdmpglaaDoor
