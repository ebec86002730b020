/- Decimals: the library's and the references' (text, Text). -/
import Derived.Test.YtgfklkfbccknoaaGreatDoorGEmB
import Derived.Test.YtgfklkfbccknoaaGreatDoorGReg
import Derived.Lib.ItoaNum
namespace Go.Proofs.YtgfklkfbccknoaaGreatDoor
open Go.RowKit
set_option maxRecDepth 10000

/-- 'string([]byte{c})' where the byte lies in block b -/
theorem conv1B {P : Program} {src dst e : TypeId} (hs : P.underlying src = some (.slice e)) (he : P.underlying e = some (.int .u8)) (hd : P.underlying dst = some .string)
    (a : Int) (ha : 0 ≤ a ∧ a < 256) (b : Nat) (W : World) (h : W.cell? ⟨b, 0, none⟩ = some (.int .u8 a)) : (convert src dst (.slice (some ⟨b, 0, none⟩) 1 1)).run P W = .ok (.string (bs [UInt8.ofNat a.toNat])) W :=
  run_convert_bytes_back (P := P) W src dst e ⟨b, 0, none⟩ 1 [UInt8.ofNat a.toNat] hs he hd (fun j hj => by
    have h0 : j = 0 := by simpa using hj
    subst h0
    rw [addr_add]
    rw [h]
    simp
    omega)
theorem dec_len_le : ∀ (k u : Nat), u < 10 ^ (k + 1) → (Lib.decDigits u).length ≤ k + 1
  | 0, u, h => by
    rw [Lib.decDigits, dif_pos (by simpa using h)]; simp
  | k + 1, u, h => by
    rw [Lib.decDigits]
    split
    · simp
    · have := dec_len_le k (u / 10) (by rw [Nat.pow_succ] at h; omega)
      rw [List.length_append]
      simp
      exact this
theorem dec_small {u : Nat} (h : u < 10) : Lib.decDigits u = [UInt8.ofNat (48 + u)] := by rw [Lib.decDigits, dif_pos h]
theorem dec_big {u : Nat} (h : ¬ u < 10) : Lib.decDigits u = Lib.decDigits (u / 10) ++ [UInt8.ofNat (48 + u % 10)] := by rw [Lib.decDigits, dif_neg h]

set_option maxHeartbeats 4000000 in
theorem rtext_small (u : Nat) (w : World) (h10 : u < 10) : Calls Tryz.prog 53 #[.int .i64 u] w fun e w' => e = .returned (S (Lib.decDigits u)) ∧ Below w.heap.size w w' := by
  have hi : (u : Int) < 10 := by omega
  have hcv := fun W => conv1 (P := Tryz.prog) Tryz.underlying37 Tryz.underlying5 Tryz.underlying9 ((48 : Int) + u) (by omega) W
  have hd := dec_small h10
  have hb : UInt8.ofNat ((48 : Int) + u).toNat = UInt8.ofNat (48 + u) := by congr 1
  rw [hb, ← hd] at hcv
  clear hb hd
  go_enter Tryz.func53, Tryz.ntmps53
  go_wp2_with fail
  go_ret
  exact ⟨rfl, (Below.refl _ _).alloc (Nat.le_refl _) _⟩
set_option maxHeartbeats 4000000 in
theorem rtext_any : ∀ (u : Nat) (w : World), u ≤ 9223372036854775807 → Calls Tryz.prog 53 #[.int .i64 u] w fun e w' => e = .returned (S (Lib.decDigits u)) ∧ Below w.heap.size w w' := by
  intro u
  induction u using Nat.strongRecOn with
  | ind u ih =>
    intro w hu
    by_cases h10 : u < 10
    · exact rtext_small u w h10
    have hi : ¬ (u : Int) < 10 := by omega
    have hcv := fun W => conv1 (P := Tryz.prog) Tryz.underlying37 Tryz.underlying5 Tryz.underlying9 ((48 : Int) + (u : Int) % 10) (by omega) W
    have hi2 : (u : Int) ≤ 9223372036854775807 := by omega
    have w1 : IntKind.i64.wrap ((u : Int) / 10) = (u : Int) / 10 := IntWalk.i64_in _ (by omega)
    have w2 : (u : Int).tmod 10 = (u : Int) % 10 := Int.tmod_eq_emod_of_nonneg (by omega)
    have w3 : IntKind.i64.wrap (48 + (u : Int) % 10) = 48 + (u : Int) % 10 := IntWalk.i64_in _ (by omega)
    have w4 : IntKind.u8.wrap (48 + (u : Int) % 10) = 48 + (u : Int) % 10 := IntWalk.u8_in _ (by omega)
    have hd := dec_big h10
    have hb : UInt8.ofNat ((48 : Int) + (u : Int) % 10).toNat = UInt8.ofNat (48 + u % 10) := by congr 1
    have hcvB := fun b W => conv1B (P := Tryz.prog) Tryz.underlying37 Tryz.underlying5 Tryz.underlying9 ((48 : Int) + (u : Int) % 10) (by omega) b W
    rw [hb] at hcv hcvB
    have hrec : ∀ (q : Int), q = ((u / 10 : Nat) : Int) → ∀ W, Calls Tryz.prog 53 #[.int .i64 q] W fun e w' => e = .returned (S (Lib.decDigits (u / 10))) ∧ Below W.heap.size W w' := fun q hq W => hq ▸ ih (u / 10) (by omega) W (by omega)
    have hlen := dec_len_le 18 (u / 10) (by omega)
    have hcat := bs_app (Lib.decDigits (u / 10)) [UInt8.ofNat (48 + u % 10)]
    rw [← hd] at hcat
    obtain ⟨dg, hdg⟩ : ∃ dg, dg = UInt8.ofNat (48 + u % 10) := ⟨_, rfl⟩
    rw [← hdg] at hcat hcv hcvB
    clear hdg
    obtain ⟨D, hD⟩ : ∃ D, D = Lib.decDigits u := ⟨_, rfl⟩
    obtain ⟨T, hT⟩ : ∃ T, T = Lib.decDigits (u / 10) := ⟨_, rfl⟩
    rw [← hD] at hcat ⊢
    rw [← hT] at hcat hrec hlen
    have hlt : ¬ 9223372036854775807 < T.length + 1 := by omega
    clear hb hd ih hD hT
    have HREC := Lib.hid hrec; clear hrec
    have HCB := Lib.hid hcvB; clear hcvB
    go_enter Tryz.func53, Tryz.ntmps53
    go_wp2_with fail
    refine wp_region_held_drew (S := fun _ => True) (by kernel_rfl) (by exact trivial) (fun hHeld => ?_)
    refine tk 0 (v := ?_) rfl (by kernel_rfl) (by kernel_rfl) (by kernel_rfl) (fun _ _ _ h => h) (by rfl) (by assumption) (fun w hSw => ?_) ?_
    rotate_left
    · (try dsimp only at hSw); go_simp; first | done | with_reducible rfl   -- move
    try simp only [Act.put, List.setIfInBounds_toArray, List.set_cons_zero, List.set_cons_succ]
    refine tk 1 (v := ?_) rfl (by kernel_rfl) (by kernel_rfl) (by kernel_rfl) (fun _ _ _ h => h) (by rfl) (by assumption) (fun w hSw => ?_) ?_
    rotate_left
    · (try dsimp only at hSw); go_simp; first | done | with_reducible rfl   -- binOp
    try simp only [Act.put, List.setIfInBounds_toArray, List.set_cons_zero, List.set_cons_succ]
    refine tk 3 (v := ?_) rfl (by kernel_rfl) (by kernel_rfl) (by kernel_rfl) (fun _ _ _ h => h) (by rfl) (by assumption) (fun w hSw => ?_) ?_
    rotate_left
    · (try dsimp only at hSw); go_simp; first | done | with_reducible rfl   -- move
    try simp only [Act.put, List.setIfInBounds_toArray, List.set_cons_zero, List.set_cons_succ]
    refine tk 4 (v := ?_) rfl (by kernel_rfl) (by kernel_rfl) (by kernel_rfl) (fun _ _ _ h => h) (by rfl) (by assumption) (fun w hSw => ?_) ?_
    rotate_left
    · (try dsimp only at hSw); go_simp; first | done | with_reducible rfl   -- binOp
    try simp only [Act.put, List.setIfInBounds_toArray, List.set_cons_zero, List.set_cons_succ]
    refine tk 5 (v := ?_) rfl (by kernel_rfl) (by kernel_rfl) (by kernel_rfl) (fun _ _ _ h => h) (by rfl) (by assumption) (fun w hSw => ?_) ?_
    rotate_left
    · (try dsimp only at hSw); go_simp; first | done | with_reducible rfl   -- binOp
    try simp only [Act.put, List.setIfInBounds_toArray, List.set_cons_zero, List.set_cons_succ]
    refine tk 6 (v := ?_) rfl (by kernel_rfl) (by kernel_rfl) (by kernel_rfl) (fun _ _ _ h => h) (by rfl) (by assumption) (fun w hSw => ?_) ?_
    rotate_left
    · (try dsimp only at hSw); go_simp; first | done | with_reducible rfl   -- convert
    try simp only [Act.put, List.setIfInBounds_toArray, List.set_cons_zero, List.set_cons_succ]
    refine rn2 2 7 (by kernel_rfl) rfl (by rfl) ?_ rfl (by rfl) ?_
    · intro K hK
      go_simp   -- 2: call of tamis/tamisref09.text
      refine (HREC.out _ (by omega) _).mono ?_
      rintro e w2 ⟨rfl, hb2⟩
      have HB2 := Lib.hid hb2; clear hb2
      dsimp only
      refine hK.out _ _ ?_ (fun hHeld => ?_)
      · exact trivial
      clear hK K
      try simp only [Act.put, List.setIfInBounds_toArray, List.set_cons_zero, List.set_cons_succ]
      refine rn 7 (by kernel_rfl) rfl (by rfl) (fun K hK => ?_)
      go_simp   -- 7: buildSlice
      refine hK.out _ _ ?_ (fun hHeld => ?_)
      · exact trivial
      clear hK K
      try simp only [Act.put, List.setIfInBounds_toArray, List.set_cons_zero, List.set_cons_succ]
      refine rn 8 (by kernel_rfl) rfl (by rfl) (fun K hK => ?_)
      go_simp   -- 8: convert
      refine hK.out _ _ ?_ (fun hHeld => ?_)
      · exact trivial
      clear hK K
      try simp only [Act.put, List.setIfInBounds_toArray, List.set_cons_zero, List.set_cons_succ]
      refine tk 9 (v := ?_) rfl (by kernel_rfl) (by kernel_rfl) (by kernel_rfl) (fun _ _ _ h => h) (by rfl) (by assumption) (fun w hSw => ?_) ?_
      rotate_left
      · (try dsimp only at hSw); go_simp; first | done | with_reducible rfl   -- binOp
      try simp only [Act.put, List.setIfInBounds_toArray, List.set_cons_zero, List.set_cons_succ]
      refine tk 10 (v := ?_) rfl (by kernel_rfl) (by kernel_rfl) (by kernel_rfl) (fun _ _ _ h => h) (by rfl) (by assumption) (fun w hSw => ?_) ?_
      rotate_left
      · (try dsimp only at hSw); go_simp; first | done | with_reducible rfl   -- assign
      try simp only [Act.put, List.setIfInBounds_toArray, List.set_cons_zero, List.set_cons_succ]
      refine wpAnyH_done (by kernel_rfl) ?_ _
      go_wp2_with fail
      go_ret
      refine ⟨rfl, ?_⟩
      have hb2 := HB2.out
      have hbw : Below w.heap.size w w2 := by
        first
          | exact (Below.refl w.heap.size w).drew.trans hb2
          | exact ((Below.refl w.heap.size w).alloc (Nat.le_refl _) _).drew.trans (Below.mono (B' := w.heap.size) hb2 (by simp))
      first
        | exact hbw
        | exact hbw.alloc hbw.size _
    · intro K hK
      go_simp   -- 7: buildSlice
      refine hK.out _ _ ?_ (fun hHeld => ?_)
      · exact trivial
      clear hK K
      try simp only [Act.put, List.setIfInBounds_toArray, List.set_cons_zero, List.set_cons_succ]
      refine rn2 2 8 (by kernel_rfl) rfl (by rfl) ?_ rfl (by rfl) ?_
      · intro K hK
        go_simp   -- 2: call of tamis/tamisref09.text
        refine (HREC.out _ (by omega) _).mono ?_
        rintro e w2 ⟨rfl, hb2⟩
        have HB2 := Lib.hid hb2; clear hb2
        dsimp only
        refine hK.out _ _ ?_ (fun hHeld => ?_)
        · exact trivial
        clear hK K
        try simp only [Act.put, List.setIfInBounds_toArray, List.set_cons_zero, List.set_cons_succ]
        refine rn 8 (by kernel_rfl) rfl (by rfl) (fun K hK => ?_)
        go_simp   -- 8: convert
        rw [HCB.out _ _ ((HB2.out.cell (p := ⟨w.heap.size, 0, none⟩) (by simp)).trans (by simp [World.cell?_alloc_mark]))]
        simp only [Result.andThen]
        rw [Oper.upon_value]
        go_simp
        refine hK.out _ _ ?_ (fun hHeld => ?_)
        · exact trivial
        clear hK K
        try simp only [Act.put, List.setIfInBounds_toArray, List.set_cons_zero, List.set_cons_succ]
        refine tk 9 (v := ?_) rfl (by kernel_rfl) (by kernel_rfl) (by kernel_rfl) (fun _ _ _ h => h) (by rfl) (by assumption) (fun w hSw => ?_) ?_
        rotate_left
        · (try dsimp only at hSw); go_simp; first | done | with_reducible rfl   -- binOp
        try simp only [Act.put, List.setIfInBounds_toArray, List.set_cons_zero, List.set_cons_succ]
        refine tk 10 (v := ?_) rfl (by kernel_rfl) (by kernel_rfl) (by kernel_rfl) (fun _ _ _ h => h) (by rfl) (by assumption) (fun w hSw => ?_) ?_
        rotate_left
        · (try dsimp only at hSw); go_simp; first | done | with_reducible rfl   -- assign
        try simp only [Act.put, List.setIfInBounds_toArray, List.set_cons_zero, List.set_cons_succ]
        refine wpAnyH_done (by kernel_rfl) ?_ _
        go_wp2_with fail
        go_ret
        refine ⟨rfl, ?_⟩
        have hb2 := HB2.out
        have hbw : Below w.heap.size w w2 := by
          first
            | exact (Below.refl w.heap.size w).drew.trans hb2
            | exact ((Below.refl w.heap.size w).alloc (Nat.le_refl _) _).drew.trans (Below.mono (B' := w.heap.size) hb2 (by simp))
        first
          | exact hbw
          | exact hbw.alloc hbw.size _
      · intro K hK
        go_simp   -- 8: convert
        rw [HCB.out _ _ (by simp [World.cell?_alloc_mark])]
        simp only [Result.andThen]
        rw [Oper.upon_value]
        go_simp
        refine hK.out _ _ ?_ (fun hHeld => ?_)
        · exact trivial
        clear hK K
        try simp only [Act.put, List.setIfInBounds_toArray, List.set_cons_zero, List.set_cons_succ]
        refine rn 2 (by kernel_rfl) rfl (by rfl) (fun K hK => ?_)
        go_simp   -- 2: call of tamis/tamisref09.text
        refine (HREC.out _ (by omega) _).mono ?_
        rintro e w2 ⟨rfl, hb2⟩
        have HB2 := Lib.hid hb2; clear hb2
        dsimp only
        refine hK.out _ _ ?_ (fun hHeld => ?_)
        · exact trivial
        clear hK K
        try simp only [Act.put, List.setIfInBounds_toArray, List.set_cons_zero, List.set_cons_succ]
        refine tk 9 (v := ?_) rfl (by kernel_rfl) (by kernel_rfl) (by kernel_rfl) (fun _ _ _ h => h) (by rfl) (by assumption) (fun w hSw => ?_) ?_
        rotate_left
        · (try dsimp only at hSw); go_simp; first | done | with_reducible rfl   -- binOp
        try simp only [Act.put, List.setIfInBounds_toArray, List.set_cons_zero, List.set_cons_succ]
        refine tk 10 (v := ?_) rfl (by kernel_rfl) (by kernel_rfl) (by kernel_rfl) (fun _ _ _ h => h) (by rfl) (by assumption) (fun w hSw => ?_) ?_
        rotate_left
        · (try dsimp only at hSw); go_simp; first | done | with_reducible rfl   -- assign
        try simp only [Act.put, List.setIfInBounds_toArray, List.set_cons_zero, List.set_cons_succ]
        refine wpAnyH_done (by kernel_rfl) ?_ _
        go_wp2_with fail
        go_ret
        refine ⟨rfl, ?_⟩
        have hb2 := HB2.out
        have hbw : Below w.heap.size w w2 := by
          first
            | exact (Below.refl w.heap.size w).drew.trans hb2
            | exact ((Below.refl w.heap.size w).alloc (Nat.le_refl _) _).drew.trans (Below.mono (B' := w.heap.size) hb2 (by simp))
        first
          | exact hbw
          | exact hbw.alloc hbw.size _
end Go.Proofs.YtgfklkfbccknoaaGreatDoor
