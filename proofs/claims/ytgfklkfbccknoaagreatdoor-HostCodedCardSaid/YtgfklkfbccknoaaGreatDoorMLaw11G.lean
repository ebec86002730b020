/- The walk of HostCoded. -/
import Derived.Test.YtgfklkfbccknoaaGreatDoorGHlwA
import Derived.Test.YtgfklkfbccknoaaGreatDoorGReg
namespace Go.Proofs.YtgfklkfbccknoaaGreatDoor
open Go.RowKit
set_option maxRecDepth 10000

def digC (n : Nat) : UInt8 := ([48, 49, 50, 51, 52, 53, 54, 55, 56, 57, 97, 98, 99, 68, 69, 70] : Bytes).getD n 0
def hiC (x : UInt8) : UInt8 := digC (x.toNat / 16)
def loC (x : UInt8) : UInt8 := digC (x.toNat % 16)
def codC (l : Bytes) : Bytes := l.flatMap fun x => [37, hiC x, loC x]
theorem cod_facts : ∀ k : Fin 256, 0 ≤ dgt (b2 (hiC (UInt8.ofNat k.val))) 16 ∧ 0 ≤ dgt (b2 (loC (UInt8.ofNat k.val))) 16 ∧ UInt8.ofNat (pdV (hiC (UInt8.ofNat k.val)) (loC (UInt8.ofNat k.val))).toNat = UInt8.ofNat k.val := by decide +kernel
theorem cod_is (x : UInt8) : 0 ≤ dgt (b2 (hiC x)) 16 ∧ 0 ≤ dgt (b2 (loC x)) 16 ∧ UInt8.ofNat (pdV (hiC x) (loC x)).toNat = x := by
  have := cod_facts ⟨x.toNat, x.toNat_lt⟩
  simpa only [UInt8.ofNat_toNat] using this
theorem digC_at : ∀ k : Fin 16, (⟨#[48, 49, 50, 51, 52, 53, 54, 55, 56, 57, 97, 98, 99, 68, 69, 70]⟩ : ByteArray).extract k.val (k.val + 1) = bs [digC k.val] := by decide +kernel
theorem cod_len : ∀ l : Bytes, (codC l).length = 3 * l.length
  | [] => rfl
  | x :: r => by
    have e : codC (x :: r) = [37, hiC x, loC x] ++ codC r := by simp [codC]
    rw [e, List.length_append, cod_len r]
    simp only [List.length_cons, List.length_nil]; omega
theorem cod_take (l : Bytes) {k : Nat} (hk : k < l.length) : codC (l.take (k + 1)) = codC (l.take k) ++ [37, hiC l[k], loC l[k]] := by
  unfold codC
  rw [List.take_succ_eq_append_getElem hk, List.flatMap_append]
  simp
theorem head_is (l : Bytes) (h : 0 < l.length) : b2 (l[0]'h) = 91 ↔ l.head? = some 91 := by
  cases l with
  | nil => simp at h
  | cons x r =>
    simp only [List.getElem_cons_zero, List.head?_cons, Option.some.injEq]
    exact ⟨fun h => b2_inj (y := 91) (h.trans (by decide)), fun h => by rw [h]; decide⟩
set_option maxHeartbeats 40000000 in
theorem hostCoded_walk (s : ByteArray) (w : World) (_ : s.size ≤ maxLen) (hE : Env w) (hN : NE w) :
    Calls Tryz.prog 9 #[.string s] w fun e w' => e = .returned (.bool true) ∧ Below w.heap.size w w' := by
  have HSM := Lib.hid (small11_any w hE hN)
  by_cases hbig : 200 < s.size
  · clear hE hN
    go_enter Tryz.func9, Tryz.ntmps9
    go_wp2_with fail
    refine (HSM.out).mono ?_
    rintro e w1 ⟨rfl, hb1⟩
    have HB1 := Lib.hid hb1; clear hb1
    go_wp2_with fail
    go_ret
    exact ⟨rfl, HB1.out⟩
  obtain ⟨l, hl⟩ : ∃ l, l = ls s := ⟨_, rfl⟩
  have hs : s = bs l := by rw [hl, bs_ls]
  have hsz : s.size = l.length := by rw [hs, bs_size]
  have hp := fun (W : World) (hW : Below w.heap.size w W) => hparse_any l true W (short_of (by omega)) (hE.below hW)
  have hpc := fun (W : World) (hW : Below w.heap.size w W) => hparse_any (codC l) true W (short_of (by rw [cod_len]; omega)) (hE.below hW)
  have hpl := fun (W : World) (hW : Below w.heap.size w W) => hparse_any (l.map lowB) true W (short_of (by rw [List.length_map]; omega)) (hE.below hW)
  have hlow := fun (W : World) => lower_any l W (by unfold maxLen; omega)
  have hby : ∀ k (hk : k < s.size) (hk2 : k < l.length), ((s[k]'hk).toNat : Int) = b2 l[k] := fun k hk hk2 => str_at hs hk hk2
  rw [← hs] at hp hlow
  clear hE hN hl hs
  obtain ⟨Z, hZ⟩ : ∃ Z, Z = s.size := ⟨_, rfl⟩
  have hsZ : s.size = Z := hZ.symm
  have hZm : Z ≤ 200 := by omega
  have HZL := Lib.hid (show Z = l.length by omega)
  have HBY := Lib.hid hby
  have HP := Lib.hid hp; have HPC := Lib.hid hpc; have HPL := Lib.hid hpl; have HLOW := Lib.hid hlow
  clear hsz hby hZ hp hpc hpl hlow
  go_enter Tryz.func9, Tryz.ntmps9
  go_wp2_with fail
  refine (HSM.out).mono ?_
  rintro e w1 ⟨rfl, hb1⟩
  have HB1 := Lib.hid hb1; clear hb1
  go_wp2_with fail
  go_loopw [4] (fun iv wr => ∃ k : Nat, k ≤ Z ∧ iv = .int .i64 k ∧ Hid (∀ j (hj : j < l.length), j < k → b2 l[j] ≠ 37 ∧ l.head? ≠ some 91) ∧ w1 = wr) (fun i _ => Z - (intOf i).toNat)
  case atStart => exact ⟨0, by omega, by simp, fun j _ h => absurd h (Nat.not_lt_zero j), rfl⟩
  case round =>
    obtain ⟨k, hk, rfl, hall, rfl⟩ := hrel
    by_cases hlt : k < Z
    · have hku : k < s.size := by omega
      have hk0 : 0 < s.size := by omega
      have hkl : k < l.length := by have := HZL.out; omega
      have hl0 : 0 < l.length := by omega
      have hx := HBY.out k hku hkl
      have hx0 := HBY.out 0 hk0 hl0
      have hh := head_is l hl0
      have hst : b2 l[k] ≠ 37 → b2 (l[0]'hl0) ≠ 91 → ∀ j (hj : j < l.length), j < k + 1 → b2 l[j] ≠ 37 ∧ l.head? ≠ some 91 := fun h1 h2 j hj h3 => by
        refine ⟨?_, fun h => h2 (hh.mpr h)⟩
        rcases Nat.lt_or_ge j k with h4 | h4
        · exact (hall.out j hj h4).1
        · obtain rfl : j = k := by omega
          exact h1
      clear hh hall
      generalize b2 l[k] = X at hx hst
      generalize b2 (l[0]'hl0) = X0 at hx0 hst
      by_cases hX : X = 37
      · subst hX
        clear hst
        go_wp2_with fail
        go_ret
        exact ⟨rfl, HB1.out⟩
      · have hXq : (X == 37) = false := by simpa using hX
        by_cases hX0 : X0 = 91
        · subst hX0
          clear hst
          go_wp2_with fail
          go_ret
          exact ⟨rfl, HB1.out⟩
        · have hX0q : (X0 == 91) = false := by simpa using hX0
          have HST := Lib.hid (hst hX hX0); clear hst
          go_wp2_with fail
          go_roundw
          case rel => exact ⟨k + 1, by omega, by simp, HST.out, trivial⟩
          case measure => simp [intOf]; omega
    · obtain rfl : k = Z := by omega
      have h37 : ∀ y ∈ l, b2 y ≠ 37 := fun y hy => by
        obtain ⟨j, hj, rfl⟩ := List.getElem_of_mem hy
        exact (hall.out j hj (by have := HZL.out; omega)).1
      have h91 : l.head? ≠ some 91 := by
        cases hc : l with
        | nil => simp
        | cons x r =>
          have := (hall.out 0 (by rw [hc]; simp) (by have := HZL.out; rw [hc] at this; simp at this; omega)).2
          rw [hc] at this
          exact this
      have hq1 := coded_all (s := l) cod_is h37 h91
      have hq2 := coded_low h37 h91
      have HPC2 := Lib.hid (show ∀ W, Below w.heap.size w W → Calls Tryz.prog 11 #[.string (bs (codC l)), .bool true] W fun e w' => e = hostE (hostP l true) ∧ Below W.heap.size W w' from by rw [← hq1]; exact HPC.out)
      have HPL2 := Lib.hid (show ∀ W, Below w.heap.size w W → Calls Tryz.prog 11 #[.string (bs (l.map lowB)), .bool true] W fun e w' => e = hostE (hostP l true) ∧ Below W.heap.size W w' from by rw [← hq2]; exact HPL.out)
      clear h37 h91 hq1 hq2 hall HPC HPL
      have hg8 := host_six l true
      obtain ⟨G, hG⟩ : ∃ G, G = (hostP l true).getD H0 := ⟨_, rfl⟩
      obtain ⟨q, hq⟩ : ∃ q, q = (hostP l true).isSome := ⟨_, rfl⟩
      have hE' : hostE (hostP l true) = .returned (.tuple #[.agg (hCells G), .bool q]) := by rw [hG, hq]
      rw [hE'] at HPC2 HPL2 HP
      rw [← hG] at hg8
      have HG8 := Lib.hid hg8
      clear hG hq hE' hg8
      go_wp2_with fail
      go_loopw [6, 7] (fun cv iv wr => ∃ k2 : Nat, k2 ≤ k ∧ iv = .int .i64 k2 ∧ cv = .string (bs (codC (l.take k2))) ∧ Below w1.heap.size w1 wr) (fun _ i _ => k - (intOf i).toNat)
      case atStart => exact ⟨0, by omega, by simp, rfl, Below.refl _ _⟩
      case round =>
        obtain ⟨k2, hk2, rfl, rfl, hbl⟩ := hrel
        have HBL := Lib.hid hbl; clear hbl
        by_cases hlt2 : k2 < k
        · have hku : k2 < s.size := by omega
          have hkl : k2 < l.length := by have := HZL.out; omega
          have hx := HBY.out k2 hku hkl
          have hst := cod_take l hkl
          have hcl : (codC (l.take k2)).length ≤ 600 := by rw [cod_len, List.length_take]; omega
          generalize l[k2] = x at hx hst
          obtain ⟨q, hq⟩ : ∃ q, q = x.toNat / 16 := ⟨_, rfl⟩
          obtain ⟨r, hr⟩ : ∃ r, r = x.toNat % 16 := ⟨_, rfl⟩
          have hq16 : q < 16 := by have := x.toNat_lt; omega
          have hr16 : r < 16 := by omega
          unfold hiC loC at hst
          rw [← hq, ← hr] at hst
          have g1 := digC_at ⟨q, hq16⟩
          have g2 := digC_at ⟨r, hr16⟩
          simp only at g1 g2
          obtain ⟨X, hX⟩ : ∃ X : Int, X = b2 x := ⟨_, rfl⟩
          rw [← hX] at hx
          have hXn : X = (x.toNat : Int) := hX
          have ht : Int.tdiv X 16 = (q : Int) := by rw [hXn, hq]; exact (Int.ofNat_tdiv x.toNat 16).symm
          have hm : Int.tmod X 16 = (r : Int) := by rw [hXn, hr]; exact (Int.ofNat_tmod x.toNat 16).symm
          obtain ⟨Q1, hQ1⟩ : ∃ Q1, Q1 = q + 1 := ⟨_, rfl⟩
          obtain ⟨R1, hR1⟩ : ∃ R1, R1 = r + 1 := ⟨_, rfl⟩
          rw [← hQ1] at g1
          rw [← hR1] at g2
          have hwq : IntKind.u8.wrap (q : Int) = (q : Int) := by rw [IntKind.wrap_u8]; omega
          have hwr : IntKind.u8.wrap (r : Int) = (r : Int) := by rw [IntKind.wrap_u8]; omega
          have hwq1 : IntKind.u8.wrap ((q : Int) + 1) = (Q1 : Int) := by rw [IntKind.wrap_u8]; omega
          have hwr1 : IntKind.u8.wrap ((r : Int) + 1) = (R1 : Int) := by rw [IntKind.wrap_u8]; omega
          have b1 : q ≤ Q1 := by omega
          have b2' : Q1 ≤ 16 := by omega
          have b3 : r ≤ R1 := by omega
          have b4 : R1 ≤ 16 := by omega
          have b5 : (Q1 : Int) ≤ 16 := by omega
          have b6 : (R1 : Int) ≤ 16 := by omega
          obtain ⟨D1, hD1⟩ : ∃ D, D = bs [digC q] := ⟨_, rfl⟩
          obtain ⟨D2, hD2⟩ : ∃ D, D = bs [digC r] := ⟨_, rfl⟩
          have z1 : D1.size = 1 := by rw [hD1, bs_size]; rfl
          have z2 : D2.size = 1 := by rw [hD2, bs_size]; rfl
          rw [← hD1] at g1
          rw [← hD2] at g2
          obtain ⟨c0, hc0⟩ : ∃ c, c = bs (codC (l.take k2)) := ⟨_, rfl⟩
          have zc : c0.size ≤ 600 := by rw [hc0, bs_size]; exact hcl
          obtain ⟨v1, hv1⟩ : ∃ v, v = c0 ++ (⟨#[37]⟩ : ByteArray) := ⟨_, rfl⟩
          obtain ⟨v2, hv2⟩ : ∃ v, v = v1 ++ D1 := ⟨_, rfl⟩
          obtain ⟨v3, hv3⟩ : ∃ v, v = v2 ++ D2 := ⟨_, rfl⟩
          have zv1 : v1.size ≤ 601 := by rw [hv1, ByteArray.size_append]; have : (⟨#[37]⟩ : ByteArray).size = 1 := rfl; omega
          have zv2 : v2.size ≤ 602 := by rw [hv2, ByteArray.size_append]; omega
          have n1 : ¬ 9223372036854775807 < c0.size + 1 := by omega
          have n2 : ¬ 9223372036854775807 < v1.size + 1 := by omega
          have n3 : ¬ 9223372036854775807 < v2.size + 1 := by omega
          have HV := Lib.hid (show v3 = bs (codC (l.take (k2 + 1))) by
            rw [hst, hv3, hv2, hv1, hc0, hD1, hD2, show (⟨#[37]⟩ : ByteArray) = bs [37] from rfl, bs_app, bs_app, bs_app]
            congr 1
            simp)
          have e1 := hv1.symm
          have e2 := hv2.symm
          have e3 := hv3.symm
          rw [← hc0]
          have HQ := Lib.hid hQ1; have HR1 := Lib.hid hR1
          clear hv1 hv2 hv3 hc0 hD1 hD2 hst hcl hq hr hX hXn hQ1 hR1
          go_wp2_with fail
          refine wp_region_held_drew (S := fun _ => True) (by kernel_rfl) (by exact trivial) (fun hHeld => ?_)
          refine tk 0 (v := ?_) rfl (by kernel_rfl) (by kernel_rfl) (by kernel_rfl) (fun _ _ _ h => h) (by rfl) (by assumption) (fun wS hSw => ?_) ?_
          rotate_left
          · (try dsimp only at hSw); go_simp; first | done | with_reducible rfl   -- move
          try simp only [Act.put, List.setIfInBounds_toArray, List.set_cons_zero, List.set_cons_succ]
          refine tk 1 (v := ?_) rfl (by kernel_rfl) (by kernel_rfl) (by kernel_rfl) (fun _ _ _ h => h) (by rfl) (by assumption) (fun wS hSw => ?_) ?_
          rotate_left
          · (try dsimp only at hSw); go_simp; first | done | with_reducible rfl   -- binOp
          try simp only [Act.put, List.setIfInBounds_toArray, List.set_cons_zero, List.set_cons_succ]
          refine tk 2 (v := ?_) rfl (by kernel_rfl) (by kernel_rfl) (by kernel_rfl) (fun _ _ _ h => h) (by rfl) (by assumption) (fun wS hSw => ?_) ?_
          rotate_left
          · (try dsimp only at hSw); go_simp; first | done | with_reducible rfl   -- move
          try simp only [Act.put, List.setIfInBounds_toArray, List.set_cons_zero, List.set_cons_succ]
          refine tk 3 (v := ?_) rfl (by kernel_rfl) (by kernel_rfl) (by kernel_rfl) (fun _ _ _ h => h) (by rfl) (by assumption) (fun wS hSw => ?_) ?_
          rotate_left
          · (try dsimp only at hSw); go_simp; first | done | with_reducible rfl   -- move
          try simp only [Act.put, List.setIfInBounds_toArray, List.set_cons_zero, List.set_cons_succ]
          refine tk 4 (v := ?_) rfl (by kernel_rfl) (by kernel_rfl) (by kernel_rfl) (fun _ _ _ h => h) (by rfl) (by assumption) (fun wS hSw => ?_) ?_
          rotate_left
          · (try dsimp only at hSw); go_simp; first | done | with_reducible rfl   -- move
          try simp only [Act.put, List.setIfInBounds_toArray, List.set_cons_zero, List.set_cons_succ]
          refine tk 5 (v := ?_) rfl (by kernel_rfl) (by kernel_rfl) (by kernel_rfl) (fun _ _ _ h => h) (by rfl) (by assumption) (fun wS hSw => ?_) ?_
          rotate_left
          · (try dsimp only at hSw); go_simp; first | done | with_reducible rfl   -- index
          try simp only [Act.put, List.setIfInBounds_toArray, List.set_cons_zero, List.set_cons_succ]
          refine tk 6 (v := ?_) rfl (by kernel_rfl) (by kernel_rfl) (by kernel_rfl) (fun _ _ _ h => h) (by rfl) (by assumption) (fun wS hSw => ?_) ?_
          rotate_left
          · (try dsimp only at hSw); go_simp; first | done | with_reducible rfl   -- binOp
          try simp only [Act.put, List.setIfInBounds_toArray, List.set_cons_zero, List.set_cons_succ]
          refine tk 7 (v := ?_) rfl (by kernel_rfl) (by kernel_rfl) (by kernel_rfl) (fun _ _ _ h => h) (by rfl) (by assumption) (fun wS hSw => ?_) ?_
          rotate_left
          · (try dsimp only at hSw); go_simp; first | done | with_reducible rfl   -- move
          try simp only [Act.put, List.setIfInBounds_toArray, List.set_cons_zero, List.set_cons_succ]
          refine tk 8 (v := ?_) rfl (by kernel_rfl) (by kernel_rfl) (by kernel_rfl) (fun _ _ _ h => h) (by rfl) (by assumption) (fun wS hSw => ?_) ?_
          rotate_left
          · (try dsimp only at hSw); go_simp; first | done | with_reducible rfl   -- move
          try simp only [Act.put, List.setIfInBounds_toArray, List.set_cons_zero, List.set_cons_succ]
          refine tk 9 (v := ?_) rfl (by kernel_rfl) (by kernel_rfl) (by kernel_rfl) (fun _ _ _ h => h) (by rfl) (by assumption) (fun wS hSw => ?_) ?_
          rotate_left
          · (try dsimp only at hSw); go_simp; first | done | with_reducible rfl   -- index
          try simp only [Act.put, List.setIfInBounds_toArray, List.set_cons_zero, List.set_cons_succ]
          refine tk 10 (v := ?_) rfl (by kernel_rfl) (by kernel_rfl) (by kernel_rfl) (fun _ _ _ h => h) (by rfl) (by assumption) (fun wS hSw => ?_) ?_
          rotate_left
          · (try dsimp only at hSw); go_simp; first | done | with_reducible rfl   -- binOp
          try simp only [Act.put, List.setIfInBounds_toArray, List.set_cons_zero, List.set_cons_succ]
          refine tk 11 (v := ?_) rfl (by kernel_rfl) (by kernel_rfl) (by kernel_rfl) (fun _ _ _ h => h) (by rfl) (by assumption) (fun wS hSw => ?_) ?_
          rotate_left
          · (try dsimp only at hSw); go_simp; first | done | with_reducible rfl   -- binOp
          try simp only [Act.put, List.setIfInBounds_toArray, List.set_cons_zero, List.set_cons_succ]
          refine tk 12 (v := ?_) rfl (by kernel_rfl) (by kernel_rfl) (by kernel_rfl) (fun _ _ _ h => h) (by rfl) (by assumption) (fun wS hSw => ?_) ?_
          rotate_left
          · (try dsimp only at hSw); go_simp; first | done | with_reducible rfl   -- slice
          try simp only [Act.put, List.setIfInBounds_toArray, List.set_cons_zero, List.set_cons_succ]
          refine tk 13 (v := ?_) rfl (by kernel_rfl) (by kernel_rfl) (by kernel_rfl) (fun _ _ _ h => h) (by rfl) (by assumption) (fun wS hSw => ?_) ?_
          rotate_left
          · (try dsimp only at hSw); go_simp; first | done | with_reducible rfl   -- binOp
          try simp only [Act.put, List.setIfInBounds_toArray, List.set_cons_zero, List.set_cons_succ]
          refine tk 14 (v := ?_) rfl (by kernel_rfl) (by kernel_rfl) (by kernel_rfl) (fun _ _ _ h => h) (by rfl) (by assumption) (fun wS hSw => ?_) ?_
          rotate_left
          · (try dsimp only at hSw); go_simp; first | done | with_reducible rfl   -- move
          try simp only [Act.put, List.setIfInBounds_toArray, List.set_cons_zero, List.set_cons_succ]
          refine tk 15 (v := ?_) rfl (by kernel_rfl) (by kernel_rfl) (by kernel_rfl) (fun _ _ _ h => h) (by rfl) (by assumption) (fun wS hSw => ?_) ?_
          rotate_left
          · (try dsimp only at hSw); go_simp; first | done | with_reducible rfl   -- move
          try simp only [Act.put, List.setIfInBounds_toArray, List.set_cons_zero, List.set_cons_succ]
          refine tk 16 (v := ?_) rfl (by kernel_rfl) (by kernel_rfl) (by kernel_rfl) (fun _ _ _ h => h) (by rfl) (by assumption) (fun wS hSw => ?_) ?_
          rotate_left
          · (try dsimp only at hSw); go_simp; first | done | with_reducible rfl   -- move
          try simp only [Act.put, List.setIfInBounds_toArray, List.set_cons_zero, List.set_cons_succ]
          refine tk 17 (v := ?_) rfl (by kernel_rfl) (by kernel_rfl) (by kernel_rfl) (fun _ _ _ h => h) (by rfl) (by assumption) (fun wS hSw => ?_) ?_
          rotate_left
          · (try dsimp only at hSw); go_simp; first | done | with_reducible rfl   -- index
          try simp only [Act.put, List.setIfInBounds_toArray, List.set_cons_zero, List.set_cons_succ]
          refine tk 18 (v := ?_) rfl (by kernel_rfl) (by kernel_rfl) (by kernel_rfl) (fun _ _ _ h => h) (by rfl) (by assumption) (fun wS hSw => ?_) ?_
          rotate_left
          · (try dsimp only at hSw); go_simp; first | done | with_reducible rfl   -- binOp
          try simp only [Act.put, List.setIfInBounds_toArray, List.set_cons_zero, List.set_cons_succ]
          refine tk 19 (v := ?_) rfl (by kernel_rfl) (by kernel_rfl) (by kernel_rfl) (fun _ _ _ h => h) (by rfl) (by assumption) (fun wS hSw => ?_) ?_
          rotate_left
          · (try dsimp only at hSw); go_simp; first | done | with_reducible rfl   -- move
          try simp only [Act.put, List.setIfInBounds_toArray, List.set_cons_zero, List.set_cons_succ]
          refine tk 20 (v := ?_) rfl (by kernel_rfl) (by kernel_rfl) (by kernel_rfl) (fun _ _ _ h => h) (by rfl) (by assumption) (fun wS hSw => ?_) ?_
          rotate_left
          · (try dsimp only at hSw); go_simp; first | done | with_reducible rfl   -- move
          try simp only [Act.put, List.setIfInBounds_toArray, List.set_cons_zero, List.set_cons_succ]
          refine tk 21 (v := ?_) rfl (by kernel_rfl) (by kernel_rfl) (by kernel_rfl) (fun _ _ _ h => h) (by rfl) (by assumption) (fun wS hSw => ?_) ?_
          rotate_left
          · (try dsimp only at hSw); go_simp; first | done | with_reducible rfl   -- index
          try simp only [Act.put, List.setIfInBounds_toArray, List.set_cons_zero, List.set_cons_succ]
          refine tk 22 (v := ?_) rfl (by kernel_rfl) (by kernel_rfl) (by kernel_rfl) (fun _ _ _ h => h) (by rfl) (by assumption) (fun wS hSw => ?_) ?_
          rotate_left
          · (try dsimp only at hSw); go_simp; first | done | with_reducible rfl   -- binOp
          try simp only [Act.put, List.setIfInBounds_toArray, List.set_cons_zero, List.set_cons_succ]
          refine tk 23 (v := ?_) rfl (by kernel_rfl) (by kernel_rfl) (by kernel_rfl) (fun _ _ _ h => h) (by rfl) (by assumption) (fun wS hSw => ?_) ?_
          rotate_left
          · (try dsimp only at hSw); go_simp; first | done | with_reducible rfl   -- binOp
          try simp only [Act.put, List.setIfInBounds_toArray, List.set_cons_zero, List.set_cons_succ]
          refine tk 24 (v := ?_) rfl (by kernel_rfl) (by kernel_rfl) (by kernel_rfl) (fun _ _ _ h => h) (by rfl) (by assumption) (fun wS hSw => ?_) ?_
          rotate_left
          · (try dsimp only at hSw); go_simp; first | done | with_reducible rfl   -- slice
          try simp only [Act.put, List.setIfInBounds_toArray, List.set_cons_zero, List.set_cons_succ]
          refine tk 25 (v := ?_) rfl (by kernel_rfl) (by kernel_rfl) (by kernel_rfl) (fun _ _ _ h => h) (by rfl) (by assumption) (fun wS hSw => ?_) ?_
          rotate_left
          · (try dsimp only at hSw); go_simp; first | done | with_reducible rfl   -- binOp
          try simp only [Act.put, List.setIfInBounds_toArray, List.set_cons_zero, List.set_cons_succ]
          refine tk 26 (v := ?_) rfl (by kernel_rfl) (by kernel_rfl) (by kernel_rfl) (fun _ _ _ h => h) (by rfl) (by assumption) (fun wS hSw => ?_) ?_
          rotate_left
          · (try dsimp only at hSw); go_simp; first | done | with_reducible rfl   -- assign
          try simp only [Act.put, List.setIfInBounds_toArray, List.set_cons_zero, List.set_cons_succ]
          refine wpAnyH_done (by kernel_rfl) ?_ _
          go_wp2_with fail
          go_roundw
          case rel => exact ⟨k2 + 1, by omega, by simp, by rw [HV.out], HBL.out.drew⟩
          case measure => simp [intOf]; omega
        · obtain rfl : k2 = k := by omega
          have htk : l.take k2 = l := List.take_of_length_le (by have := HZL.out; omega)
          rw [htk]
          clear htk
          obtain ⟨cc, hcc⟩ : ∃ c, c = bs (codC l) := ⟨_, rfl⟩
          obtain ⟨ll, hll⟩ : ∃ c, c = bs (l.map lowB) := ⟨_, rfl⟩
          rw [← hcc] at HPC2 ⊢
          rw [← hll] at HPL2
          have HLO := Lib.hid (show ∀ W, Calls Tryz.prog 20 #[.string s] W fun e w' => e = .returned (.string ll) ∧ Below W.heap.size W w' from by rw [hll]; exact HLOW.out)
          have HBW := Lib.hid (stp HB1.out HBL.out)
          clear hcc hll HLOW HBL
          go_upto_region 16 with (first
            | (go_at_call 11; refine (HP.out _ HBW.out).mono ?_; rintro e x1 ⟨rfl, hb⟩; have HY1 := Lib.hid hb; clear hb)
            | (refine alloc_to rfl 26 rfl _ _ (allH _) ?_)
            | (refine storeH rfl (.tmp 8) (.tmp 70) rfl G HG8.out rfl rfl rfl ?_; intro W1 hh hb; have HH1 := Lib.hid hh; have HS1 := Lib.hid (stp HY1.out hb); clear hh hb HY1)
            | fail)
          have HBW1 := Lib.hid (stp HBW.out HS1.out)
          go_upto_region 17 with (first
            | (go_at_call 11; refine (HPC2.out _ HBW1.out).mono ?_; rintro e x2 ⟨rfl, hb⟩; have HY2 := Lib.hid hb; clear hb)
            | (refine alloc_to rfl 26 rfl _ _ (allH _) ?_)
            | (refine storeH rfl (.tmp 10) (.tmp 75) rfl G HG8.out rfl rfl rfl ?_; intro W2 hh hb; have HH2 := Lib.hid hh; have HS2 := Lib.hid (stp HY2.out hb); clear hh hb HY2)
            | fail)
          have HBW2 := Lib.hid (stp HBW1.out HS2.out)
          go_upto_region 18 with (first
            | (go_at_call 20; refine (HLO.out _).mono ?_; rintro e x3 ⟨rfl, hb⟩; have HY3 := Lib.hid hb; clear hb)
            | (go_at_call 11; refine (HPL2.out _ (stp HBW2.out HY3.out)).mono ?_; rintro e x4 ⟨rfl, hb⟩; have HY4 := Lib.hid (stp HY3.out hb); clear hb)
            | (refine alloc_to rfl 26 rfl _ _ (allH _) ?_)
            | (refine storeH rfl (.tmp 12) (.tmp 81) rfl G HG8.out rfl rfl rfl ?_; intro W3 hh hb; have HH3 := Lib.hid hh; have HS3 := Lib.hid (stp HY4.out hb); clear hh hb HY3 HY4)
            | fail)
          have HBW3 := Lib.hid (stp HBW2.out HS3.out)
          have HF1 := Lib.hid (HH1.out.keep (stp HS2.out HS3.out))
          have HF2 := Lib.hid (HH2.out.keep HS3.out)
          clear HH1 HH2 HS1 HS2 HS3
          go_wp2_with (first
            | (refine loadH (by rfl) (.tmp 8) rfl _ G HF1.out rfl ?_)
            | (refine loadH (by rfl) (.tmp 10) rfl _ G HF2.out rfl ?_)
            | (refine loadH (by rfl) (.tmp 12) rfl _ G HH3.out rfl ?_)
            | (refine eqH (by rfl) (.tmp 85) (.tmp 86) rfl G HG8.out rfl rfl ?_)
            | (refine eqH (by rfl) (.tmp 95) (.tmp 96) rfl G HG8.out rfl rfl ?_)
            | fail)
          go_ret
          exact ⟨ret1_bool (by simp), HBW3.out⟩
end Go.Proofs.YtgfklkfbccknoaaGreatDoor
