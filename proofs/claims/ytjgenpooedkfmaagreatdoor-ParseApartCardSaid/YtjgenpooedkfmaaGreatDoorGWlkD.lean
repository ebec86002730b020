/- parts.Split: what it answers. -/
import Derived.Deep.DeepCutAuto
import Derived.Test.YtjgenpooedkfmaaGreatDoorGAthH
import Derived.Test.YtjgenpooedkfmaaGreatDoorGHlwA
namespace Go.Proofs.YtjgenpooedkfmaaGreatDoor
open Go.RowKit
set_option maxRecDepth 10000

def P0 : Prt := ⟨false, [], [], false, [], false, []⟩
abbrev pCells (p : Prt) : Array Value := #[.bool p.hasS, S p.sch, S p.rest, .bool p.hasQ, S p.q, .bool p.hasF, S p.f]
theorem p_info : (Tryz.prog.info? 42).map (·.size) = some 7 := by kernel_rfl
theorem allP (w : World) : (Instr.alloc 42 true (Value.tuple #[])).run Tryz.prog w = .ok (.pointer (some ⟨w.heap.size, 0, none⟩)) (w.alloc (.cells (pCells P0) 42)) := by kernel_rfl
theorem p_one {p : Prt} : ∀ v ∈ (pCells p).toList, v.oneCell' = true := by
  intro v hv
  simp only [List.mem_cons, List.not_mem_nil, or_false] at hv
  rcases hv with e | e | e | e | e | e | e <;> (rw [e]; rfl)
theorem p_res {tmps : Array Value} {w w2 : World} {b : Nat} {p : Prt} (h2 : tmps.getD 2 undef = .pointer (some ⟨b, 0, none⟩)) (i : OB w b 42 (pCells p) w2) {R : Prt} (hR : p = R) :
    bodyPost Tryz.prog Tryz.f16 (fun e w' => e = .returned (.agg (pCells R)) ∧ Below w.heap.size w w') Exit.ret { tmps := tmps, defers := [] } w2 := by
  subst hR
  have h2' : tmps[2]?.getD undef = .pointer (some ⟨b, 0, none⟩) := by simpa using h2
  have hl := i.load (P := Tryz.prog) 42 _ Tryz.underlying42 rfl p_info
  refine bodyPost_ret (v := .agg (pCells p)) ?_ rfl ⟨rfl, i.bel⟩
  simp [results, Tryz.results16, asAddr, h2', hl]
theorem cut1_len (c : UInt8) (s : Bytes) : (cut1 c s).1.length ≤ s.length ∧ (cut1 c s).2.1.length ≤ s.length := by
  have h := congrArg List.length (cut1_is c s)
  rw [List.length_append] at h
  by_cases hf : (cut1 c s).2.2 = true
  · rw [if_pos hf, List.length_cons] at h
    omega
  · rw [cut1_flag c s (by simpa using hf)]
    simp only [List.length_nil]
    omega
set_option maxHeartbeats 8000000 in
theorem split_any (s : Bytes) (w : World) (hl : s.length ≤ 1000000) (hE : Env w) : Calls Tryz.prog 16 #[.string (bs s)] w fun e w' => e = .returned (.agg (pCells (splitF s))) ∧ Below w.heap.size w w' := by
  have hsf : splitF s = if (cut1 58 (cut1 63 (cut1 35 s).1).1).2.2 = true ∧ schN (cut1 58 (cut1 63 (cut1 35 s).1).1).1 = true then ⟨true, (cut1 58 (cut1 63 (cut1 35 s).1).1).1.map lowB, (cut1 58 (cut1 63 (cut1 35 s).1).1).2.1, (cut1 63 (cut1 35 s).1).2.2, (cut1 63 (cut1 35 s).1).2.1, (cut1 35 s).2.2, (cut1 35 s).2.1⟩ else ⟨false, [], (cut1 63 (cut1 35 s).1).1, (cut1 63 (cut1 35 s).1).2.2, (cut1 63 (cut1 35 s).1).2.1, (cut1 35 s).2.2, (cut1 35 s).2.1⟩ := rfl
  obtain ⟨R, hR⟩ : ∃ R, R = splitF s := ⟨_, rfl⟩
  rw [← hR]
  rw [← hR] at hsf
  clear hR
  have l1 := cut1_len 35 s
  have k1 := fun (W : World) (hW : Below w.heap.size w W) => scut_any s [35] W hl (hE.below hW)
  rw [lcut1] at k1
  generalize cut1 35 s = C1 at *
  obtain ⟨a, f, hf⟩ := C1
  simp only at hsf l1 k1
  have l2 := cut1_len 63 a
  have k2 := fun (W : World) (hW : Below w.heap.size w W) => scut_any a [63] W (by omega) (hE.below hW)
  rw [lcut1] at k2
  generalize cut1 63 a = C2 at *
  obtain ⟨b, q, hq⟩ := C2
  simp only at hsf l2 k2
  have l3 := cut1_len 58 b
  have k3 := fun (W : World) (hW : Below w.heap.size w W) => scut_any b [58] W (by omega) (hE.below hW)
  rw [lcut1] at k3
  generalize cut1 58 b = C3 at *
  obtain ⟨c, d, hc⟩ := C3
  simp only at hsf l3 k3
  have kn := fun W => pnamed_any c W (by omega)
  have kl := fun W => lower_any c W (by unfold maxLen; omega)
  generalize schN c = sn at hsf kn
  obtain ⟨S0, hS0⟩ : ∃ x, x = bs s := ⟨_, rfl⟩
  obtain ⟨SA, hSA⟩ : ∃ x, x = bs a := ⟨_, rfl⟩
  obtain ⟨SB, hSB⟩ : ∃ x, x = bs b := ⟨_, rfl⟩
  obtain ⟨SC, hSC⟩ : ∃ x, x = bs c := ⟨_, rfl⟩
  have K1 := Lib.hid (show ∀ W, Below w.heap.size w W → Calls Tryz.prog 30 #[.string S0, .string ⟨#[35]⟩] W fun e w' => e = .returned (.tuple #[.string SA, S f, .bool hf]) ∧ Below W.heap.size W w' from by rw [hS0, hSA]; exact k1)
  have K2 := Lib.hid (show ∀ W, Below w.heap.size w W → Calls Tryz.prog 30 #[.string SA, .string ⟨#[63]⟩] W fun e w' => e = .returned (.tuple #[.string SB, S q, .bool hq]) ∧ Below W.heap.size W w' from by rw [hSA, hSB]; exact k2)
  have K3 := Lib.hid (show ∀ W, Below w.heap.size w W → Calls Tryz.prog 30 #[.string SB, .string ⟨#[58]⟩] W fun e w' => e = .returned (.tuple #[.string SC, S d, .bool hc]) ∧ Below W.heap.size W w' from by rw [hSB, hSC]; exact k3)
  have KN := Lib.hid (show ∀ W, Calls Tryz.prog 36 #[.string SC] W fun e w' => e = .returned (.bool sn) ∧ w' = W from by rw [hSC]; exact kn)
  have KL := Lib.hid (show ∀ W, Calls Tryz.prog 37 #[.string SC] W fun e w' => e = .returned (S (c.map lowB)) ∧ Below W.heap.size W w' from by rw [hSC]; exact kl)
  have HSB := Lib.hid hSB
  rw [← hS0]
  have HSF := Lib.hid hsf
  clear k1 k2 k3 kn kl hS0 hSA hSB hSC l1 l2 l3 hsf hl hE
  generalize c.map lowB = cl at *
  go_enter Tryz.func16, Tryz.ntmps16
  go_upto_region 2 with (first
    | (refine alloc_to rfl 42 rfl _ _ (allP _) ?_)
    | fail)
  have h4 := OB.fresh w 42 (pCells P0)
  obtain ⟨w1, hw1⟩ : ∃ w1, w1 = w.alloc (.cells (pCells P0) 42) := ⟨_, rfl⟩
  rw [← hw1] at h4 ⊢
  have hz1 : w1.heap.size = w.heap.size + 1 := by rw [hw1]; simp
  have h6 := OB.fresh w1 42 (pCells P0)
  rw [hz1] at h6
  try rw [hz1]
  have H4 := Lib.hid h4; clear h4
  clear hw1
  obtain ⟨w2, hw2⟩ : ∃ w2, w2 = w1.alloc (.cells (pCells P0) 42) := ⟨_, rfl⟩
  rw [← hw2] at h6 ⊢
  clear hw2
  have H6 := Lib.hid h6; clear h6
  have HBW := Lib.hid (show ∀ W, Below w1.heap.size w1 W → Below w.heap.size w W from fun W hW => stp H4.out.bel hW)
  clear hz1
  go_upto_region 3 with (first
    | (go_at_call 30; refine (K1.out _ (HBW.out _ H6.out.bel)).mono ?_; rintro e w3 ⟨rfl, hb⟩; have H63 := Lib.hid (H6.out.below hb); clear hb)
    | (refine put1 rfl 9 (.tmp 13) (.tmp 11) rfl w1 (w.heap.size + 1) 42 (pCells P0) H63.out 6 (S f) rfl rfl (show 6 < 7 by decide) one_info.1 rfl (pCells { P0 with f := f }) rfl ?_; intro w4 i _ _; have H64 := Lib.hid i; clear i)
    | (refine put1 rfl 4 (.tmp 14) (.tmp 12) rfl w1 (w.heap.size + 1) 42 (pCells { P0 with f := f }) H64.out 5 (.bool hf) rfl rfl (show 5 < 7 by decide) one_info.2.2 rfl (pCells { P0 with f := f, hasF := hf }) rfl ?_; intro w5 i _ _; have H65 := Lib.hid i; clear i)
    | fail)
  clear H6 H63 H64
  go_upto_region 4 with (first
    | (go_at_call 30; refine (K2.out _ (HBW.out _ H65.out.bel)).mono ?_; rintro e w6 ⟨rfl, hb⟩; have H66 := Lib.hid (H65.out.below hb); clear hb)
    | (refine put1 rfl 9 (.tmp 21) (.tmp 19) rfl w1 (w.heap.size + 1) 42 (pCells { P0 with f := f, hasF := hf }) H66.out 4 (S q) rfl rfl (show 4 < 7 by decide) one_info.1 rfl (pCells { P0 with f := f, hasF := hf, q := q }) rfl ?_; intro w7 i _ _; have H67 := Lib.hid i; clear i)
    | (refine put1 rfl 4 (.tmp 22) (.tmp 20) rfl w1 (w.heap.size + 1) 42 (pCells { P0 with f := f, hasF := hf, q := q }) H67.out 3 (.bool hq) rfl rfl (show 3 < 7 by decide) one_info.2.2 rfl (pCells { P0 with f := f, hasF := hf, q := q, hasQ := hq }) rfl ?_; intro w8 i _ _; have H68 := Lib.hid i; clear i)
    | fail)
  clear H65 H66 H67
  go_upto_region 5 with (first
    | (refine put1 rfl 9 (.tmp 24) (.tmp 23) rfl w1 (w.heap.size + 1) 42 (pCells { P0 with f := f, hasF := hf, q := q, hasQ := hq }) H68.out 2 (.string SB) rfl rfl (show 2 < 7 by decide) one_info.1 rfl (pCells { P0 with f := f, hasF := hf, q := q, hasQ := hq, rest := b }) (by rw [HSB.out]; rfl) ?_; intro w9 i _ _; have H69 := Lib.hid i; clear i)
    | fail)
  clear H68
  go_upto_region 6 with (first
    | (go_at_call 30; refine (K3.out _ (HBW.out _ H69.out.bel)).mono ?_; rintro e w10 ⟨rfl, hb⟩; have H70 := Lib.hid (H69.out.below hb); clear hb)
    | fail)
  clear H69
  cases hc with
  | false =>
    have HR := Lib.hid (show R = ⟨false, [], b, hq, q, hf, f⟩ from HSF.out)
    go_upto_region 10 with (first
      | (go_at_call 36; refine (KN.out _).mono ?_; rintro e w11 ⟨rfl, hw⟩; subst hw)
      | fail)
    have H47 := Lib.hid (H4.out.below H70.out.bel)
    go_wp2_with (first
      | (refine getN rfl 42 (.tmp 3) rfl w1 (w.heap.size + 1) 42 (pCells { P0 with f := f, hasF := hf, q := q, hasQ := hq, rest := b }) H70.out _ rfl Tryz.underlying42 rfl p_info ?_)
      | (refine putN rfl 42 (.tmp 2) (.tmp 42) rfl w w.heap.size 42 (pCells P0) H47.out 0 (pCells { P0 with f := f, hasF := hf, q := q, hasQ := hq, rest := b }).toList rfl rfl (Nat.le_refl _) p_info p_one (pCells { P0 with f := f, hasF := hf, q := q, hasQ := hq, rest := b }) rfl ?_; intro w12 i; have H48 := Lib.hid i; clear i)
      | fail)
    exact p_res rfl H48.out (by rw [HR.out]; rfl)
  | true =>
    cases sn with
    | false =>
      have HR := Lib.hid (show R = ⟨false, [], b, hq, q, hf, f⟩ from HSF.out)
      go_upto_region 10 with (first
        | (go_at_call 36; refine (KN.out _).mono ?_; rintro e w11 ⟨rfl, hw⟩; subst hw)
        | fail)
      have H47 := Lib.hid (H4.out.below H70.out.bel)
      go_wp2_with (first
        | (refine getN rfl 42 (.tmp 3) rfl w1 (w.heap.size + 1) 42 (pCells { P0 with f := f, hasF := hf, q := q, hasQ := hq, rest := b }) H70.out _ rfl Tryz.underlying42 rfl p_info ?_)
        | (refine putN rfl 42 (.tmp 2) (.tmp 42) rfl w w.heap.size 42 (pCells P0) H47.out 0 (pCells { P0 with f := f, hasF := hf, q := q, hasQ := hq, rest := b }).toList rfl rfl (Nat.le_refl _) p_info p_one (pCells { P0 with f := f, hasF := hf, q := q, hasQ := hq, rest := b }) rfl ?_; intro w12 i; have H48 := Lib.hid i; clear i)
        | fail)
      exact p_res rfl H48.out (by rw [HR.out]; rfl)
    | true =>
      have HR := Lib.hid (show R = ⟨true, cl, d, hq, q, hf, f⟩ from HSF.out)
      go_upto_region 10 with (first
        | (go_at_call 36; refine (KN.out _).mono ?_; rintro e w11 ⟨rfl, hw⟩; subst hw)
        | (go_at_call 37; refine (KL.out _).mono ?_; rintro e w13 ⟨rfl, hb⟩; have H73 := Lib.hid (H71.out.below hb); clear hb)
        | (refine put1 rfl 4 (.tmp 36) (.const (.bool true)) rfl w1 (w.heap.size + 1) 42 (pCells { P0 with f := f, hasF := hf, q := q, hasQ := hq, rest := b }) H70.out 0 (.bool true) rfl rfl (show 0 < 7 by decide) one_info.2.2 rfl (pCells { P0 with f := f, hasF := hf, q := q, hasQ := hq, rest := b, hasS := true }) rfl ?_; intro w12 i _ _; have H71 := Lib.hid i; clear i)
        | (refine put1 rfl 9 (.tmp 39) (.tmp 38) rfl w1 (w.heap.size + 1) 42 (pCells { P0 with f := f, hasF := hf, q := q, hasQ := hq, rest := b, hasS := true }) H73.out 1 (S cl) rfl rfl (show 1 < 7 by decide) one_info.1 rfl (pCells { P0 with f := f, hasF := hf, q := q, hasQ := hq, rest := b, hasS := true, sch := cl }) rfl ?_; intro w14 i _ _; have H74 := Lib.hid i; clear i)
        | (refine put1 rfl 9 (.tmp 41) (.tmp 40) rfl w1 (w.heap.size + 1) 42 (pCells { P0 with f := f, hasF := hf, q := q, hasQ := hq, rest := b, hasS := true, sch := cl }) H74.out 2 (S d) rfl rfl (show 2 < 7 by decide) one_info.1 rfl (pCells { P0 with f := f, hasF := hf, q := q, hasQ := hq, rest := d, hasS := true, sch := cl }) rfl ?_; intro w15 i _ _; have H75 := Lib.hid i; clear i)
        | fail)
      have H47 := Lib.hid (H4.out.below H75.out.bel)
      go_wp2_with (first
        | (refine getN rfl 42 (.tmp 3) rfl w1 (w.heap.size + 1) 42 (pCells { P0 with f := f, hasF := hf, q := q, hasQ := hq, rest := d, hasS := true, sch := cl }) H75.out _ rfl Tryz.underlying42 rfl p_info ?_)
        | (refine putN rfl 42 (.tmp 2) (.tmp 42) rfl w w.heap.size 42 (pCells P0) H47.out 0 (pCells { P0 with f := f, hasF := hf, q := q, hasQ := hq, rest := d, hasS := true, sch := cl }).toList rfl rfl (Nat.le_refl _) p_info p_one (pCells { P0 with f := f, hasF := hf, q := q, hasQ := hq, rest := d, hasS := true, sch := cl }) rfl ?_; intro w12 i; have H48 := Lib.hid i; clear i)
        | fail)
      exact p_res rfl H48.out HR.out.symm
end Go.Proofs.YtjgenpooedkfmaaGreatDoor
