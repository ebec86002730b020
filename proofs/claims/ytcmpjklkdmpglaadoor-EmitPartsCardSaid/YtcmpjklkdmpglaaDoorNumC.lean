/- Addresses of four bytes as texts: four.Write, the reference's Write. -/
import Derived.Test.YtcmpjklkdmpglaaDoorNumB
namespace Go.Proofs.YtcmpjklkdmpglaaDoor
open Go.RowKit
set_option maxRecDepth 10000

theorem mask255 (v : Nat) (hv : v < 4294967296) : bits BinOp.and IntKind.u32 (v : Int) 255 = ((v % 256 : Nat) : Int) := by
  have h := bits_mask .u32 32 (by decide) (fun n h0 h1 => by rw [IntKind.wrap_u32]; omega) 8 (by decide) (v : Int) (by omega) (by omega)
  have e : ((2 : Int) ^ 8 - 1) = 255 := by decide
  have e2 : ((2 : Int) ^ 8) = 256 := by decide
  rw [e, e2] at h
  rw [h]
  omega
def fourF (n : Nat) : Bytes := Lib.decDigits (n / 16777216) ++ [46] ++ Lib.decDigits (n / 65536 % 256) ++ [46] ++ Lib.decDigits (n / 256 % 256) ++ [46] ++ Lib.decDigits (n % 256)
theorem dec3 {u : Nat} (h : u < 256) : (Lib.decDigits u).length ≤ 3 := dec_len_le 2 u (by omega)

/-- the text behind k rounds -/
def fourK (n : Nat) : Nat → Bytes
  | 0 => []
  | 1 => Lib.decDigits (n / 16777216) ++ [46]
  | 2 => Lib.decDigits (n / 16777216) ++ [46] ++ Lib.decDigits (n / 65536 % 256) ++ [46]
  | 3 => Lib.decDigits (n / 16777216) ++ [46] ++ Lib.decDigits (n / 65536 % 256) ++ [46] ++ Lib.decDigits (n / 256 % 256) ++ [46]
  | _ => fourF n
theorem fourK_len (n : Nat) (hn : n < 4294967296) (k : Nat) : (fourK n k).length ≤ 15 := by
  have h1 := dec3 (u := n / 16777216) (by omega)
  have h2 := dec3 (u := n / 65536 % 256) (by omega)
  have h3 := dec3 (u := n / 256 % 256) (by omega)
  have h4 := dec3 (u := n % 256) (by omega)
  unfold fourK fourF
  split <;> simp only [List.length_append, List.length_cons, List.length_nil] <;> omega
theorem fourF_len (n : Nat) (hn : n < 4294967296) : (fourF n).length ≤ 15 := fourK_len n hn 4

set_option maxHeartbeats 8000000 in
theorem fwrite_any (n : Nat) (hn : n < 4294967296) (w : World) (hE : NE w) :
    Calls Tryd.prog 37 #[.int .u32 n] w fun e w' => e = .returned (S (fourF n)) ∧ Below w.heap.size w w' := by
  obtain ⟨i0, hi0, hz0, hz1, hz2⟩ := info_parts u8_info
  have hau := fun (u : Nat) (hu : u < 256) (sv : Value) (l : Bytes) (W : World) (hb : Below w.heap.size w W) (ho : W.ownsRow w.heap.size 5 1 sv l.length (Lib.byteCells l)) (hl : l.length ≤ 15) =>
    au10_any u (by omega) sv l.length l w.heap.size W (hE.below hb) hb.size ho (by omega)
  have HAU := Lib.hid hau; clear hau hE
  have hfk := fourK_len n hn
  have hA0 : n / 16777216 < 256 := by omega
  have hA1 : n / 65536 % 256 < 256 := by omega
  have hA2 : n / 256 % 256 < 256 := by omega
  have hA3 : n % 256 < 256 := by omega
  have m0 : bits BinOp.and IntKind.u32 ((n : Int) / 16777216) 255 = ((n / 16777216 : Nat) : Int) := by
    have h := mask255 (n / 16777216) (by omega)
    rw [Nat.mod_eq_of_lt hA0] at h
    exact h
  have m1 : bits BinOp.and IntKind.u32 ((n : Int) / 65536) 255 = ((n / 65536 % 256 : Nat) : Int) := mask255 (n / 65536) (by omega)
  have m2 : bits BinOp.and IntKind.u32 ((n : Int) / 256) 255 = ((n / 256 % 256 : Nat) : Int) := mask255 (n / 256) (by omega)
  have m3 : bits BinOp.and IntKind.u32 (n : Int) 255 = ((n % 256 : Nat) : Int) := mask255 n (by omega)
  have x0 : fourK n 1 = fourK n 0 ++ Lib.decDigits (n / 16777216) ++ [46] := rfl
  have x1 : fourK n 2 = fourK n 1 ++ Lib.decDigits (n / 65536 % 256) ++ [46] := rfl
  have x2 : fourK n 3 = fourK n 2 ++ Lib.decDigits (n / 256 % 256) ++ [46] := rfl
  have x3 : fourK n 4 = fourK n 3 ++ Lib.decDigits (n % 256) := rfl
  have x4 : fourF n = fourK n 4 := rfl
  have x5 : fourK n 0 = [] := rfl
  rw [x4]
  generalize n / 16777216 = a0 at hA0 m0 x0
  generalize n / 65536 % 256 = a1 at hA1 m1 x1
  generalize n / 256 % 256 = a2 at hA2 m2 x2
  generalize n % 256 = a3 at hA3 m3 x3
  have e0 := dec3 hA0
  have e1 := dec3 hA1
  have e2 := dec3 hA2
  have e3 := dec3 hA3
  have hni : (n : Int) < 4294967296 := by omega
  generalize fourK n = K at hfk x0 x1 x2 x3 x5 ⊢
  clear x4
  have HX0 := Lib.hid x0; clear x0
  have HX1 := Lib.hid x1; clear x1
  have HX2 := Lib.hid x2; clear x2
  have HX3 := Lib.hid x3; clear x3
  have HX5 := Lib.hid x5; clear x5
  have HK := Lib.hid hfk; clear hfk
  have HE0 := Lib.hid e0; clear e0
  have HE1 := Lib.hid e1; clear e1
  have HE2 := Lib.hid e2; clear e2
  have HE3 := Lib.hid e3; clear e3
  go_enter Tryd.func37, Tryd.ntmps37
  go_wp2_with fail
  go_loopw [3, 4] (fun ov sv wr => ∃ k : Nat, Hid (((k = 0 ∧ sv = .int .i64 24) ∨ (k = 1 ∧ sv = .int .i64 16) ∨ (k = 2 ∧ sv = .int .i64 8) ∨ (k = 3 ∧ sv = .int .i64 0) ∨ (k = 4 ∧ sv = .int .i64 (-8))) ∧ wr.ownsRow w.heap.size 5 1 ov (K k).length (Lib.byteCells (K k)) ∧ Below w.heap.size w wr)) (fun _ s _ => (intOf s + 8).toNat)
  case atStart =>
    refine ⟨0, .inl ⟨rfl, rfl⟩, ?_, Below.refl _ _⟩
    rw [HX5.out]
    exact ⟨by simp [Lib.byteCells], .inl ⟨rfl, rfl⟩⟩
  case round =>
    obtain ⟨k, hk⟩ := hrel
    obtain ⟨hk, ho, hb⟩ := hk.out
    have HO := Lib.hid ho; clear ho
    have HB := Lib.hid hb; clear hb
    rcases hk with ⟨rfl, rfl⟩ | ⟨rfl, rfl⟩ | ⟨rfl, rfl⟩ | ⟨rfl, rfl⟩ | ⟨rfl, rfl⟩
    · have hl := HK.out 0
      go_wp2_with (first
        | (go_at_call 43; refine (HAU.out a0 hA0 _ _ _ HB.out HO.out hl).mono ?_; rintro e w2 ⟨v2, rfl, ho2, hb2⟩; have HO2 := Lib.hid ho2; clear ho2; have HB2 := Lib.hid (HB.out.trans hb2); clear hb2; have hwz := HB2.out.size)
        | (at_builtin; (refine push1 rfl (.tmp 18) (.tmp 19) _ rfl w.heap.size 5 i0 (.int .u8 0) 1 Tryd.underlying50 hi0 hz0 hz1 hz2 (by decide) _ _ _ _ rfl HO2.out (.int .u8 46) rfl rfl (by have := HE0.out; omega) (by decide) hwz ?_); intro v3 w3 hown3 hw3 hb3; have HO3 := Lib.hid hown3; clear hown3; have HB3 := Lib.hid hb3; clear hb3)
        | fail)
      go_roundw
      case rel =>
        refine ⟨1, .inr <| .inl ⟨rfl, rfl⟩, ?_, HB2.out.trans HB3.out⟩
        rw [HX0.out, show ([46] : Bytes) = [(46 : UInt8)] from rfl, bytes_snoc, List.length_append, List.length_append]
        exact HO3.out
      case measure => simp [intOf]
    · have hl := HK.out 1
      go_wp2_with (first
        | (go_at_call 43; refine (HAU.out a1 hA1 _ _ _ HB.out HO.out hl).mono ?_; rintro e w2 ⟨v2, rfl, ho2, hb2⟩; have HO2 := Lib.hid ho2; clear ho2; have HB2 := Lib.hid (HB.out.trans hb2); clear hb2; have hwz := HB2.out.size)
        | (at_builtin; (refine push1 rfl (.tmp 18) (.tmp 19) _ rfl w.heap.size 5 i0 (.int .u8 0) 1 Tryd.underlying50 hi0 hz0 hz1 hz2 (by decide) _ _ _ _ rfl HO2.out (.int .u8 46) rfl rfl (by have := HE1.out; omega) (by decide) hwz ?_); intro v3 w3 hown3 hw3 hb3; have HO3 := Lib.hid hown3; clear hown3; have HB3 := Lib.hid hb3; clear hb3)
        | fail)
      go_roundw
      case rel =>
        refine ⟨2, .inr <| .inr <| .inl ⟨rfl, rfl⟩, ?_, HB2.out.trans HB3.out⟩
        rw [HX1.out, show ([46] : Bytes) = [(46 : UInt8)] from rfl, bytes_snoc, List.length_append, List.length_append]
        exact HO3.out
      case measure => simp [intOf]
    · have hl := HK.out 2
      go_wp2_with (first
        | (go_at_call 43; refine (HAU.out a2 hA2 _ _ _ HB.out HO.out hl).mono ?_; rintro e w2 ⟨v2, rfl, ho2, hb2⟩; have HO2 := Lib.hid ho2; clear ho2; have HB2 := Lib.hid (HB.out.trans hb2); clear hb2; have hwz := HB2.out.size)
        | (at_builtin; (refine push1 rfl (.tmp 18) (.tmp 19) _ rfl w.heap.size 5 i0 (.int .u8 0) 1 Tryd.underlying50 hi0 hz0 hz1 hz2 (by decide) _ _ _ _ rfl HO2.out (.int .u8 46) rfl rfl (by have := HE2.out; omega) (by decide) hwz ?_); intro v3 w3 hown3 hw3 hb3; have HO3 := Lib.hid hown3; clear hown3; have HB3 := Lib.hid hb3; clear hb3)
        | fail)
      go_roundw
      case rel =>
        refine ⟨3, .inr <| .inr <| .inr <| .inl ⟨rfl, rfl⟩, ?_, HB2.out.trans HB3.out⟩
        rw [HX2.out, show ([46] : Bytes) = [(46 : UInt8)] from rfl, bytes_snoc, List.length_append, List.length_append]
        exact HO3.out
      case measure => simp [intOf]
    · have hl := HK.out 3
      go_wp2_with (first
        | (go_at_call 43; refine (HAU.out a3 hA3 _ _ _ HB.out HO.out hl).mono ?_; rintro e w2 ⟨v2, rfl, ho2, hb2⟩; have HO2 := Lib.hid ho2; clear ho2; have HB2 := Lib.hid (HB.out.trans hb2); clear hb2; have hwz := HB2.out.size)
        | fail)
      go_roundw
      case rel =>
        refine ⟨4, .inr <| .inr <| .inr <| .inr ⟨rfl, rfl⟩, ?_, HB2.out⟩
        rw [HX3.out, List.length_append]
        exact HO2.out
      case measure => simp [intOf]
    · have hcv := conv_own (P := Tryd.prog) (src := 50) (dst := 9) Tryd.underlying50 Tryd.underlying5 Tryd.underlying9 HO.out
      go_wp2_with fail
      go_ret
      exact ⟨rfl, HB.out⟩

set_option maxHeartbeats 8000000 in
theorem rfwrite_any (n : Nat) (hn : n < 4294967296) (w : World) :
    Calls Tryd.prog 46 #[.int .u32 n] w fun e w' => e = .returned (S (fourF n)) ∧ Below w.heap.size w w' := by
  have hT := fun (u : Nat) (hu : u < 256) (q : Int) (hq : q = (u : Int)) W => (hq ▸ rtext_any u W (by omega) : Calls Tryd.prog 53 #[.int .i64 q] W fun e w' => e = .returned (S (Lib.decDigits u)) ∧ Below W.heap.size W w')
  have hA0 : n / 16777216 < 256 := by omega
  have hA1 : n / 65536 % 256 < 256 := by omega
  have hA2 : n / 256 % 256 < 256 := by omega
  have hA3 : n % 256 < 256 := by omega
  have q0 : (n : Int) / 16777216 = ((n / 16777216 : Nat) : Int) := by omega
  have q1 : (n : Int) / 65536 % 256 = ((n / 65536 % 256 : Nat) : Int) := by omega
  have q2 : (n : Int) / 256 % 256 = ((n / 256 % 256 : Nat) : Int) := by omega
  have q3 : (n : Int) % 256 = ((n % 256 : Nat) : Int) := by omega
  have x : fourF n = Lib.decDigits (n / 16777216) ++ [46] ++ Lib.decDigits (n / 65536 % 256) ++ [46] ++ Lib.decDigits (n / 256 % 256) ++ [46] ++ Lib.decDigits (n % 256) := rfl
  generalize n / 16777216 = a0 at hA0 q0 x
  generalize n / 65536 % 256 = a1 at hA1 q1 x
  generalize n / 256 % 256 = a2 at hA2 q2 x
  generalize n % 256 = a3 at hA3 q3 x
  have e0 := dec3 hA0
  have e1 := dec3 hA1
  have e2 := dec3 hA2
  have e3 := dec3 hA3
  have hni : (n : Int) < 4294967296 := by omega
  have r0 := hT a0 hA0 _ q0
  have r1 := hT a1 hA1 _ q1
  have r2 := hT a2 hA2 _ q2
  have r3 := hT a3 hA3 _ q3
  generalize Lib.decDigits a0 = d0 at e0 x r0
  generalize Lib.decDigits a1 = d1 at e1 x r1
  generalize Lib.decDigits a2 = d2 at e2 x r2
  generalize Lib.decDigits a3 = d3 at e3 x r3
  have HX := Lib.hid x; clear x
  have R0 := Lib.hid r0; clear r0
  have R1 := Lib.hid r1; clear r1
  have R2 := Lib.hid r2; clear r2
  have R3 := Lib.hid r3; clear r3
  clear hT q0 q1 q2 q3 hA0 hA1 hA2 hA3
  go_enter Tryd.func46, Tryd.ntmps46
  go_wp2_with fail
  refine (R0.out _).mono ?_
  rintro e w1 ⟨rfl, hb1⟩
  have HB1 := Lib.hid hb1; clear hb1
  go_wp2_with fail
  refine (R1.out _).mono ?_
  rintro e w2 ⟨rfl, hb2⟩
  have HB2 := Lib.hid (HB1.out.trans (hb2.mono HB1.out.size)); clear hb2
  go_wp2_with fail
  refine (R2.out _).mono ?_
  rintro e w3 ⟨rfl, hb3⟩
  have HB3 := Lib.hid (HB2.out.trans (hb3.mono HB2.out.size)); clear hb3
  go_wp2_with fail
  refine (R3.out _).mono ?_
  rintro e w4 ⟨rfl, hb4⟩
  have HB4 := Lib.hid (HB3.out.trans (hb4.mono HB3.out.size)); clear hb4
  go_wp2_with fail
  go_ret
  refine ⟨ret1_S ?_, HB4.out⟩
  rw [HX.out]
  simp [ls_app, ls_mk]
end Go.Proofs.YtcmpjklkdmpglaaDoor
