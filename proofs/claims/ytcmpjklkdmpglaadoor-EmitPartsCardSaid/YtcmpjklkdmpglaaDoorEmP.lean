/- The walk of EmitParts. -/
import Derived.Test.YtcmpjklkdmpglaaDoorEmK
import Derived.Test.YtcmpjklkdmpglaaDoorReg
namespace Go.Proofs.YtcmpjklkdmpglaaDoor
open Go.RowKit
set_option maxRecDepth 10000

theorem listF_split (l : List Itm) (k : Nat) (h0 : 0 < k) (hk : k < l.length) : listF l = listF (l.take k) ++ [44, 32] ++ listF (l.drop k) := by
  cases l with
  | nil => simp at hk
  | cons x r =>
    obtain ⟨k, rfl⟩ : ∃ k', k = k' + 1 := ⟨k - 1, by omega⟩
    have hk' : k < r.length := by simpa using hk
    rw [List.take_succ_cons, List.drop_succ_cons, List.drop_eq_getElem_cons hk']
    simp only [listF]
    conv => lhs; rw [← List.take_append_drop k r, List.drop_eq_getElem_cons hk']
    rw [List.flatMap_append, List.flatMap_cons]
    simp only [List.append_assoc]
theorem escB_app (a b : Bytes) : escB (a ++ b) = escB a ++ escB b := by unfold escB; rw [List.flatMap_append]
theorem escB_sep : escB [44, 32] = [44, 32] := by decide +kernel
theorem write_split (l : List Itm) (d : Bytes) (k : Nat) (h0 : 0 < k) (hk : k < l.length) : writeF 2 l d = writeF 2 (l.take k) [] ++ [44, 32] ++ writeF 2 (l.drop k) [] := by
  have n1 : l ≠ [] := by intro h; subst h; simp at hk
  have n2 : l.take k ≠ [] := by intro h; have := congrArg List.length h; rw [List.length_take, List.length_nil] at this; omega
  have n3 : l.drop k ≠ [] := by intro h; have := congrArg List.length h; rw [List.length_drop, List.length_nil] at this; omega
  unfold writeF
  rw [if_neg n1, if_neg n2, if_neg n3]
  have e : ∀ (m : List Itm) (d : Bytes), bodyF 2 m d = listF m := fun m d => rfl
  rw [e, e, e, listF_split l k h0 hk, escB_app, escB_app, escB_sep]
theorem write_first (l : List Itm) (d : Bytes) (hk : 0 < l.length) : writeF 1 l d = writeF 1 (l.take 1) [] := by
  cases l with
  | nil => simp at hk
  | cons x r => rfl
theorem inf_itm : ∃ i, Tryd.prog.info? 40 = some i ∧ i.size = 25 := by
  have h : (Tryd.prog.info? 40).map (·.size) = some 25 := by kernel_rfl
  obtain ⟨i, h1, h2⟩ := Option.map_eq_some_iff.1 h
  exact ⟨i, h1, h2⟩
theorem slice_fromI (b o n c : Nat) (k : Nat) (hk : k < n) (hc : n ≤ c) (W : World) : (Instr.sliceAt 22 (.slice (some ⟨b, o, none⟩) n c) (some (.int .i64 (k : Int))) none none).run Tryd.prog W = .ok (.slice (some ⟨b, o + k * 25, none⟩) (n - k) (c - k)) W := by
  obtain ⟨i, hi, hsize⟩ := inf_itm
  have ht := Tryd.underlying22
  have he : Tryd.prog.elem 22 = 40 := by simp [Program.elem, ht]
  have ht' : Tryd.prog.underlying 22 = some (.slice (Tryd.prog.elem 22)) := by rw [he]; exact ht
  rw [run_sliceAt_slice W 22 _ _ _ _ ht', run_slice_l W 22 _ _ _ ht' .i64 k (by omega) (by omega)]
  have hcn : ¬ c = k := by omega
  simp [sizeOf, typeInfo, he, hi, hsize, sliced, hcn, addr_add]
theorem slice_toI (b o n c : Nat) (k : Nat) (hk : k ≤ c) (W : World) : (Instr.sliceAt 22 (.slice (some ⟨b, o, none⟩) n c) none (some (.int .i64 (k : Int))) none).run Tryd.prog W = .ok (.slice (some ⟨b, o, none⟩) k c) W := by
  obtain ⟨i, hi, hsize⟩ := inf_itm
  exact slice_to Tryd.underlying22 hi b o n c k hk W
theorem items_take {B : Nat} {w : World} {b o n c : Nat} {l : List Itm} (h : Items B w (.slice (some ⟨b, o, none⟩) n c) l) (hn : 0 < l.length) (k : Nat) (h0 : 0 < k) (hk : k ≤ l.length) : Items B w (.slice (some ⟨b, o, none⟩) k c) (l.take k) := by
  obtain ⟨c', hc, h⟩ := h
  rcases h with ⟨rfl, _⟩ | ⟨b', o', hb, hv, ha⟩
  · simp at hn
  · injection hv with h1 h2 h3
    injection h1 with h1
    injection h1 with h1 h4
    subst h1; subst h4; subst h3
    have hl : (l.take k).length = k := by rw [List.length_take]; omega
    refine ⟨c, by omega, .inr ⟨b, o, hb, by rw [hl], fun j hj => ?_⟩⟩
    have hj2 : j < l.length := by omega
    rw [List.getElem_take]
    exact ha j hj2
theorem items_drop {B : Nat} {w : World} {b o n c : Nat} {l : List Itm} (h : Items B w (.slice (some ⟨b, o, none⟩) n c) l) (k : Nat) (hk : k < l.length) : Items B w (.slice (some ⟨b, o + k * 25, none⟩) (l.length - k) (c - k)) (l.drop k) := by
  obtain ⟨c', hc, h⟩ := h
  rcases h with ⟨rfl, _⟩ | ⟨b', o', hb, hv, ha⟩
  · simp at hk
  · injection hv with h1 h2 h3
    injection h1 with h1
    injection h1 with h1 h4
    subst h1; subst h4; subst h3
    refine ⟨c - k, by rw [List.length_drop]; omega, .inr ⟨b, o + k * 25, hb, by rw [List.length_drop], fun j hj => ?_⟩⟩
    rw [List.length_drop] at hj
    rw [List.getElem_drop, show o + k * 25 + j * 25 = o + (k + j) * 25 by omega]
    exact ha (k + j) (by omega)

set_option maxHeartbeats 16000000 in
theorem emitParts_walk (v : Value) (l : List Itm) (d : Bytes) (cut : Int) (w : World) (h : Items w.heap.size w v l) (hE : NE w) :
    Calls Tryd.prog 4 #[.agg #[v, S d], .int .i64 cut] w fun e w' => e = .returned (.bool true) ∧ Below w.heap.size w w' := by
  have hsm := fun (W : World) (hW : Below w.heap.size w W) => small25_any W (hE.below hW)
  have hfr := fun (W : World) (hW : Below w.heap.size w W) => few25_any l v d W ((h.below hW).more hW.size)
  obtain ⟨av, cc, hv⟩ := items_val h
  subst hv
  obtain ⟨N, hN⟩ : ∃ N, N = l.length := ⟨_, rfl⟩
  rw [← hN] at h hfr ⊢
  have HSM := Lib.hid hsm
  have HFR := Lib.hid hfr
  have HIT := Lib.hid h
  have HN := Lib.hid hN
  have HEE := Lib.hid hE
  clear h hE hsm hfr hN
  have hbel : ∀ o, Below w.heap.size w (w.alloc o) := fun o => bel_new w o
  have HBEL := Lib.hid hbel; clear hbel
  have hrr : ∀ W, Below (w.heap.size + 1) (w.alloc (.cells #[.slice av N cc, S d] 24)) W → W.rangeAt w.heap.size 0 [.slice av N cc, S d] := fun W hW j x hj => by
    rw [hW.cell (p := ⟨w.heap.size, 0 + j, none⟩) (by simp), World.cell?_alloc_mark, Nat.zero_add]
    rw [show (#[.slice av N cc, S d] : Array Value) = [.slice av N cc, S d].toArray from rfl, List.getElem?_toArray]; exact hj
  have hWB : ∀ W, Below (w.heap.size + 1) (w.alloc (.cells #[.slice av N cc, S d] 24)) W → Below w.heap.size w W := fun W hW => (HBEL.out _).trans (hW.mono (by omega))
  have hz1 : w.heap.size + 1 ≤ (w.alloc (.cells #[.slice av N cc, S d] 24)).heap.size := by simp
  have HRR1 := Lib.hid hrr
  have HWB := Lib.hid hWB
  have HZ1 := Lib.hid hz1
  clear hrr hWB hz1
  go_enter Tryd.func4, Tryd.ntmps4
  go_upto_region 1 with fail
  obtain ⟨w1, hw1⟩ : ∃ w1, w1 = w.alloc (.cells #[.slice av N cc, S d] 24) := ⟨_, rfl⟩
  rw [← hw1] at HRR1 HWB HZ1 ⊢
  clear hw1
  have HB1 := Lib.hid (Below.refl (w.heap.size + 1) w1)
  go_upto_region 2 with (first
    | (go_at_call 5; refine (HSM.out _ (HWB.out _ HB1.out)).mono ?_; rintro e w3 ⟨rfl, hb3⟩; have HB3 := Lib.hid (hb3.mono HZ1.out); clear hb3)
    | fail)
  go_upto_region 3 with (first
    | (refine wpList_load_mid rfl 24 (.tmp 2) rfl w.heap.size 0 rfl [.slice av N cc, S d] _ (HRR1.out _ HB3.out) Tryd.underlying24 rfl (by kernel_rfl) ?_)
    | (go_at_call 6; refine (HFR.out _ (HWB.out _ HB3.out)).mono ?_; rintro e w4 ⟨⟨b1, rfl, hg1⟩, hb4⟩; have HGA := Lib.hid hg1; have HB4 := Lib.hid (HB3.out.trans (hb4.mono (Nat.le_trans HZ1.out HB3.out.size))); clear hb4 hg1)
    | fail)
  have c0 := HRR1.out _ HB4.out 0 _ rfl
  rw [Nat.zero_add] at c0
  cases b1
  · go_wp2_with fail
    go_ret
    exact ⟨rfl, HWB.out _ HB4.out⟩
  by_cases hc1 : cut ≤ 0
  · go_wp2_with fail
    go_ret
    exact ⟨rfl, HWB.out _ HB4.out⟩
  by_cases hc2 : (N : Int) ≤ cut
  · go_wp2_with fail
    go_ret
    exact ⟨rfl, HWB.out _ HB4.out⟩
  have hfew := HGA.out rfl
  obtain ⟨k, hk⟩ : ∃ k : Nat, cut = k := ⟨cut.toNat, by omega⟩
  subst hk
  have hk0 : 0 < k := by omega
  have hkN : k < N := by omega
  obtain ⟨b, o, rfl, hbb, _⟩ := items_at HIT.out 0 (by have := HN.out; omega)
  have hNl := HN.out
  have hws := write_split l d k hk0 (by omega)
  have hwf := write_first l d (by omega)
  have hcap : N ≤ cc := by
    obtain ⟨c', hc', h'⟩ := HIT.out
    rcases h' with ⟨rfl, _⟩ | ⟨_, _, _, hv, _⟩
    · simp at hNl; omega
    · injection hv with _ _ h3; omega
  have hn20 := hfew.n
  have hd2 : d.length ≤ 1000 := by have := hfew.d; omega
  have hit1 := items_take HIT.out (by omega) k hk0 (by omega)
  have hit2 := items_drop HIT.out k (by omega)
  have hit3 := items_take HIT.out (by omega) 1 (by omega) (by omega)
  rw [← hNl] at hit2
  have hwa := fun (K : Int) (W : World) (hW : Below w.heap.size w W) => ewrite_any K l _ d W ((HIT.out.below hW).more hW.size) (fun i hi => (hfew.i i hi).sm) hn20 hd2 (HEE.out.below hW)
  have hwA := fun (W : World) (hW : Below w.heap.size w W) => ewrite_any 2 (l.take k) _ [] W ((hit1.below hW).more hW.size) (fun i hi => (hfew.i i (List.mem_of_mem_take hi)).sm) (by rw [List.length_take]; omega) (by simp) (HEE.out.below hW)
  have hwB := fun (W : World) (hW : Below w.heap.size w W) => ewrite_any 2 (l.drop k) _ [] W ((hit2.below hW).more hW.size) (fun i hi => (hfew.i i (List.mem_of_mem_drop hi)).sm) (by rw [List.length_drop]; omega) (by simp) (HEE.out.below hW)
  have hw1 := fun (W : World) (hW : Below w.heap.size w W) => ewrite_any 1 (l.take 1) _ [] W ((hit3.below hW).more hW.size) (fun i hi => (hfew.i i (List.mem_of_mem_take hi)).sm) (by rw [List.length_take]; omega) (by simp) (HEE.out.below hW)
  rw [← hwf] at hw1
  have hlen : ∀ m : List Itm, (∀ i ∈ m, UrlOk i.url) → (∀ i ∈ m, ItmSm i) → m.length ≤ 20 → (writeF 2 m []).length ≤ 1000000000 := by
    intro m a1 a2 a3
    have h1 := listF_len m a1 a2
    have h2 := escB_len (listF m)
    unfold writeF
    split
    · simp
    · show (escB (listF m)).length ≤ _
      omega
  have hlA := hlen (l.take k) (items_ok hit1) (fun i hi => (hfew.i i (List.mem_of_mem_take hi)).sm) (by rw [List.length_take]; omega)
  have hlB := hlen (l.drop k) (items_ok hit2) (fun i hi => (hfew.i i (List.mem_of_mem_drop hi)).sm) (by rw [List.length_drop]; omega)
  clear hlen
  have hcat := bs_app (writeF 2 (l.take k) [] ++ [44, 32]) (writeF 2 (l.drop k) [])
  rw [← bs_app (writeF 2 (l.take k) []) [44, 32], ← hws] at hcat
  have e44 : bs [44, 32] = ⟨#[44, 32]⟩ := rfl
  rw [e44] at hcat
  have hsA := fun W => slice_toI b o N cc k (by omega) W
  have hsB := fun W => slice_fromI b o N cc k hkN hcap W
  have hs1 : ∀ W, (Instr.sliceAt 22 (.slice (some ⟨b, o, none⟩) N cc) none (some (.int .i64 1)) none).run Tryd.prog W = .ok (.slice (some ⟨b, o, none⟩) 1 cc) W := fun W => slice_toI b o N cc 1 (by omega) W
  generalize writeF 2 (l.take k) [] = A at hwA hlA hcat
  generalize writeF 2 (l.drop k) [] = B at hwB hlB hcat
  have hW2 := hwa 2
  have hW1 := hwa 1
  generalize writeF 2 l d = C2 at hW2 hcat
  generalize writeF 1 l d = C1 at hW1 hw1
  have HWA2 := Lib.hid hW2
  have HWA1 := Lib.hid hW1
  have HWA := Lib.hid hwA
  have HWBB := Lib.hid hwB
  have HW1 := Lib.hid hw1
  clear hwa hwA hwB hw1 hW1 hW2 hws hwf hit1 hit2 hit3 hfew hn20 hNl
  have e1 : ¬ 9223372036854775807 < A.length + 2 := by omega
  have e2 : ¬ 9223372036854775807 < A.length + 2 + B.length := by omega
  go_upto_region 6 with (first
    | (go_at_call 10; refine (HWA.out _ (HWB.out _ HB4.out)).mono ?_; rintro e w5 ⟨rfl, hb5⟩; have HB5 := Lib.hid (HB4.out.trans (hb5.mono (Nat.le_trans HZ1.out HB4.out.size))); clear hb5)
    | fail)
  have c0b := HRR1.out _ HB5.out 0 _ rfl
  rw [Nat.zero_add] at c0b
  go_upto_region 7 with (first
    | (go_at_call 10; refine (HWBB.out _ (HWB.out _ HB5.out)).mono ?_; rintro e w9 ⟨rfl, hb9⟩; have HB9' := Lib.hid (HB5.out.trans (hb9.mono (Nat.le_trans HZ1.out HB5.out.size))); clear hb9)
    | fail)
  have HB9 := Lib.hid (HWB.out _ HB9'.out)
  have HRR := Lib.hid (fun (W : World) (hW : Below w9.heap.size w9 W) => HRR1.out W (HB9'.out.trans (hW.mono (Nat.le_trans HZ1.out HB9'.out.size))))
  clear c0 c0b
  refine wp_region_held_drew (S := fun W => Below w9.heap.size w9 W) (by kernel_rfl) (by first | exact bz_drew (bz_refl _) | assumption | exact bz_step (by assumption) (by assumption) | exact bz_drew (by assumption)) (fun hHeld => ?_)
  refine tk 0 (v := ?_) rfl (by kernel_rfl) (by kernel_rfl) (by kernel_rfl) (fun _ _ _ h => h) (by rfl) (by assumption) (fun wS hSw => ?_) ?_
  rotate_left
  · (try dsimp only at hSw); go_simp; first | done | with_reducible rfl   -- move
  try simp only [Act.put, List.setIfInBounds_toArray, List.set_cons_zero, List.set_cons_succ]
  refine tk 1 (v := ?_) rfl (by kernel_rfl) (by kernel_rfl) (by kernel_rfl) (fun _ _ _ h => h) (by rfl) (by assumption) (fun wS hSw => ?_) ?_
  rotate_left
  · (try dsimp only at hSw); go_simp; first | done | with_reducible rfl   -- move
  try simp only [Act.put, List.setIfInBounds_toArray, List.set_cons_zero, List.set_cons_succ]
  refine tk 2 (v := ?_) rfl (by kernel_rfl) (by kernel_rfl) (by kernel_rfl) (fun _ _ _ h => h) (by rfl) (by assumption) (fun wS hSw => ?_) ?_
  rotate_left
  · (try dsimp only at hSw)   -- load
    refine load_exec (v := .agg [.slice (some ⟨b, o, none⟩) N cc, S d].toArray) (ty := 24) (x := .tmp 2) ?_ (.pointer (some ⟨w.heap.size, 0, none⟩)) ?_ ?_
    · rfl
    · rfl
    · exact run_loadAt_mid _ w.heap.size 0 24 [.slice (some ⟨b, o, none⟩) N cc, S d] _ (HRR.out _ hSw) Tryd.underlying24 rfl (by kernel_rfl)
  try simp only [Act.put, List.setIfInBounds_toArray, List.set_cons_zero, List.set_cons_succ]
  refine tk 4 (v := ?_) rfl (by kernel_rfl) (by kernel_rfl) (by kernel_rfl) (fun _ _ _ h => h) (by rfl) (by assumption) (fun wS hSw => ?_) ?_
  rotate_left
  · (try dsimp only at hSw); go_simp; first | done | with_reducible rfl   -- move
  try simp only [Act.put, List.setIfInBounds_toArray, List.set_cons_zero, List.set_cons_succ]
  refine tk 5 (v := ?_) rfl (by kernel_rfl) (by kernel_rfl) (by kernel_rfl) (fun _ _ _ h => h) (by rfl) (by assumption) (fun wS hSw => ?_) ?_
  rotate_left
  · (try dsimp only at hSw); go_simp; first | done | with_reducible rfl   -- binOp
  try simp only [Act.put, List.setIfInBounds_toArray, List.set_cons_zero, List.set_cons_succ]
  refine tk 6 (v := ?_) rfl (by kernel_rfl) (by kernel_rfl) (by kernel_rfl) (fun _ _ _ h => h) (by rfl) (by assumption) (fun wS hSw => ?_) ?_
  rotate_left
  · (try dsimp only at hSw); go_simp; first | done | with_reducible rfl   -- move
  try simp only [Act.put, List.setIfInBounds_toArray, List.set_cons_zero, List.set_cons_succ]
  refine tk 7 (v := ?_) rfl (by kernel_rfl) (by kernel_rfl) (by kernel_rfl) (fun _ _ _ h => h) (by rfl) (by assumption) (fun wS hSw => ?_) ?_
  rotate_left
  · (try dsimp only at hSw); go_simp; first | done | with_reducible rfl   -- binOp
  try simp only [Act.put, List.setIfInBounds_toArray, List.set_cons_zero, List.set_cons_succ]
  refine rn 3 (by kernel_rfl) rfl (by rfl) (fun K hK => ?_)
  go_simp   -- 3: call of tamis/emit.Write
  refine (HWA2.out _ HB9.out.drew).mono ?_
  rintro e x1 ⟨rfl, hb⟩
  have hB1 : Below w9.heap.size w9 x1 := (Below.refl w9.heap.size w9).drew.trans hb
  clear hb
  dsimp only
  refine hK.out _ _ ?_ (fun hHeld => ?_)
  · first | exact bz_drew (bz_refl _) | assumption | exact bz_step (by assumption) (by assumption) | exact bz_drew (by assumption)
  clear hK K
  try simp only [Act.put, List.setIfInBounds_toArray, List.set_cons_zero, List.set_cons_succ]
  refine tk 8 (v := ?_) rfl (by kernel_rfl) (by kernel_rfl) (by kernel_rfl) (fun _ _ _ h => h) (by rfl) (by assumption) (fun wS hSw => ?_) ?_
  rotate_left
  · (try dsimp only at hSw); go_simp; first | done | with_reducible rfl   -- binOp
  try simp only [Act.put, List.setIfInBounds_toArray, List.set_cons_zero, List.set_cons_succ]
  refine tk 9 (v := ?_) rfl (by kernel_rfl) (by kernel_rfl) (by kernel_rfl) (fun _ _ _ h => h) (by rfl) (by assumption) (fun wS hSw => ?_) ?_
  rotate_left
  · (try dsimp only at hSw); go_simp; first | done | with_reducible rfl   -- pick
  try simp only [Act.put, List.setIfInBounds_toArray, List.set_cons_zero, List.set_cons_succ]
  refine tk 10 (v := ?_) rfl (by kernel_rfl) (by kernel_rfl) (by kernel_rfl) (fun _ _ _ h => h) (by rfl) (by assumption) (fun wS hSw => ?_) ?_
  rotate_left
  · (try dsimp only at hSw); go_simp; first | done | with_reducible rfl   -- move
  try simp only [Act.put, List.setIfInBounds_toArray, List.set_cons_zero, List.set_cons_succ]
  refine tk 11 (v := ?_) rfl (by kernel_rfl) (by kernel_rfl) (by kernel_rfl) (fun _ _ _ h => h) (by rfl) (by assumption) (fun wS hSw => ?_) ?_
  rotate_left
  · (try dsimp only at hSw)   -- load
    refine load_exec (v := .agg [.slice (some ⟨b, o, none⟩) N cc, S d].toArray) (ty := 24) (x := .tmp 2) ?_ (.pointer (some ⟨w.heap.size, 0, none⟩)) ?_ ?_
    · rfl
    · rfl
    · exact run_loadAt_mid _ w.heap.size 0 24 [.slice (some ⟨b, o, none⟩) N cc, S d] _ (HRR.out _ hSw) Tryd.underlying24 rfl (by kernel_rfl)
  try simp only [Act.put, List.setIfInBounds_toArray, List.set_cons_zero, List.set_cons_succ]
  refine tk 13 (v := ?_) rfl (by kernel_rfl) (by kernel_rfl) (by kernel_rfl) (fun _ _ _ h => h) (by rfl) (by assumption) (fun wS hSw => ?_) ?_
  rotate_left
  · (try dsimp only at hSw); go_simp; first | done | with_reducible rfl   -- fieldAddr
  try simp only [Act.put, List.setIfInBounds_toArray, List.set_cons_zero, List.set_cons_succ]
  refine tk 14 (v := ?_) rfl (by kernel_rfl) (by kernel_rfl) (by kernel_rfl) (fun _ _ _ h => h) (by rfl) (by assumption) (fun wS hSw => ?_) ?_
  rotate_left
  · (try dsimp only at hSw)   -- load
    have c := HRR.out _ hSw 0 _ rfl
    rw [Nat.zero_add] at c
    go_simp
    first | done | with_reducible rfl
  try simp only [Act.put, List.setIfInBounds_toArray, List.set_cons_zero, List.set_cons_succ]
  refine tk 15 (v := ?_) rfl (by kernel_rfl) (by kernel_rfl) (by kernel_rfl) (fun _ _ _ h => h) (by rfl) (by assumption) (fun wS hSw => ?_) ?_
  rotate_left
  · (try dsimp only at hSw); go_simp; first | done | with_reducible rfl   -- slice
  try simp only [Act.put, List.setIfInBounds_toArray, List.set_cons_zero, List.set_cons_succ]
  refine tk 16 (v := ?_) rfl (by kernel_rfl) (by kernel_rfl) (by kernel_rfl) (fun _ _ _ h => h) (by rfl) (by assumption) (fun wS hSw => ?_) ?_
  rotate_left
  · (try dsimp only at hSw); go_simp; first | done | with_reducible rfl   -- build
  try simp only [Act.put, List.setIfInBounds_toArray, List.set_cons_zero, List.set_cons_succ]
  refine rn 12 (by kernel_rfl) rfl (by rfl) (fun K hK => ?_)
  go_simp   -- 12: call of tamis/emit.Write
  refine (HWA1.out _ (HB9.out.trans (hB1.mono HB9.out.size))).mono ?_
  rintro e x2 ⟨rfl, hb⟩
  have hB2 : Below w9.heap.size w9 x2 := hB1.trans (hb.mono hB1.size)
  clear hb
  dsimp only
  refine hK.out _ _ ?_ (fun hHeld => ?_)
  · first | exact bz_drew (bz_refl _) | assumption | exact bz_step (by assumption) (by assumption) | exact bz_drew (by assumption)
  clear hK K
  try simp only [Act.put, List.setIfInBounds_toArray, List.set_cons_zero, List.set_cons_succ]
  refine rn 17 (by kernel_rfl) rfl (by rfl) (fun K hK => ?_)
  go_simp   -- 17: call of tamis/emit.Write
  refine (HW1.out _ (HB9.out.trans (hB2.mono HB9.out.size))).mono ?_
  rintro e x3 ⟨rfl, hb⟩
  have hB3 : Below w9.heap.size w9 x3 := hB2.trans (hb.mono hB2.size)
  clear hb
  dsimp only
  refine hK.out _ _ ?_ (fun hHeld => ?_)
  · first | exact bz_drew (bz_refl _) | assumption | exact bz_step (by assumption) (by assumption) | exact bz_drew (by assumption)
  clear hK K
  try simp only [Act.put, List.setIfInBounds_toArray, List.set_cons_zero, List.set_cons_succ]
  refine tk 18 (v := ?_) rfl (by kernel_rfl) (by kernel_rfl) (by kernel_rfl) (fun _ _ _ h => h) (by rfl) (by assumption) (fun wS hSw => ?_) ?_
  rotate_left
  · (try dsimp only at hSw); go_simp; first | done | with_reducible rfl   -- binOp
  try simp only [Act.put, List.setIfInBounds_toArray, List.set_cons_zero, List.set_cons_succ]
  refine tk 19 (v := ?_) rfl (by kernel_rfl) (by kernel_rfl) (by kernel_rfl) (fun _ _ _ h => h) (by rfl) (by assumption) (fun wS hSw => ?_) ?_
  rotate_left
  · (try dsimp only at hSw); go_simp; first | done | with_reducible rfl   -- pick
  try simp only [Act.put, List.setIfInBounds_toArray, List.set_cons_zero, List.set_cons_succ]
  refine tk 20 (v := ?_) rfl (by kernel_rfl) (by kernel_rfl) (by kernel_rfl) (fun _ _ _ h => h) (by rfl) (by assumption) (fun wS hSw => ?_) ?_
  rotate_left
  · (try dsimp only at hSw); go_simp; first | done | with_reducible rfl   -- assign
  try simp only [Act.put, List.setIfInBounds_toArray, List.set_cons_zero, List.set_cons_succ]
  refine wpAnyH_done (by kernel_rfl) ?_ _
  go_wp2_with fail
  go_ret
  exact ⟨ret1_bool (by simp), HB9.out.trans (hB3.mono HB9.out.size)⟩
end Go.Proofs.YtcmpjklkdmpglaaDoor
