/- percent.Decode. -/
import Derived.Laws.MakeOwn
import Derived.BigQuiet
import Derived.Test.YtpckaimpjccjhaaGreatDoorGEmB
import Derived.Test.YtpckaimpjccjhaaGreatDoorGSlic
import Derived.Test.YtpckaimpjccjhaaGreatDoorGArr
set_option maxHeartbeats 40000000
namespace Go.Proofs.YtpckaimpjccjhaaGreatDoor
open Go.RowKit
set_option maxRecDepth 10000
def pdV (x y : UInt8) : Int := dgt (b2 x) 16 * 16 + dgt (b2 y) 16
def pdF : Bytes -> Bytes
 | c :: x :: y :: t => if b2 c = 37 ∧ 0 <= dgt (b2 x) 16 ∧ 0 <= dgt (b2 y) 16 then UInt8.ofNat (pdV x y).toNat :: pdF t else c :: pdF (x :: y :: t)
 | l => l
theorem dgt_lt (c : Int) : dgt c 16 < 16 := by unfold dgt; simp only; split <;> omega
theorem dgt_ge (c : Int) : -1 <= dgt c 16 := by unfold dgt; simp only; split <;> (try split) <;> (try split) <;> (try split) <;> omega
theorem pd_hit {l : Bytes} {k : Nat} (h : k + 2 < l.length) (hc : b2 l[k] = 37) (hx : 0 <= dgt (b2 l[k + 1]) 16) (hy : 0 <= dgt (b2 l[k + 2]) 16) : pdF (l.drop k) = UInt8.ofNat (pdV l[k + 1] l[k + 2]).toNat :: pdF (l.drop (k + 3)) := by
 rw [List.drop_eq_getElem_cons (show k < l.length by omega), List.drop_eq_getElem_cons (show k + 1 < l.length by omega), List.drop_eq_getElem_cons (show k + 1 + 1 < l.length by omega)]
 rw [pdF, if_pos ⟨hc, hx, hy⟩]
theorem pd_miss {l : Bytes} {k : Nat} (h : k < l.length) (hm : ¬ (b2 l[k] = 37 ∧ ∃ h2 : k + 2 < l.length, 0 <= dgt (b2 l[k + 1]) 16 ∧ 0 <= dgt (b2 l[k + 2]) 16)) : pdF (l.drop k) = l[k] :: pdF (l.drop (k + 1)) := by
 rw [List.drop_eq_getElem_cons h]
 rcases Nat.lt_or_ge (k + 2) l.length with h2 | h2
 ·rw [List.drop_eq_getElem_cons (show k + 1 < l.length by omega), List.drop_eq_getElem_cons (show k + 1 + 1 < l.length by omega)]
  rw [pdF, if_neg (fun a => hm ⟨a.1, h2, a.2⟩)]
 ·have e : (l.drop (k + 1)).length <= 1 := by rw [List.length_drop]; omega
  generalize l.drop (k + 1) = t at e
  match t, e with
  | [], _ => simp [pdF]
  | [x], _ => simp [pdF]
theorem pdecode_any (l : Bytes) (w : World) (hl : l.length <= 1024000000) : Calls Tryz.prog 212 #[.string (bs l)] w (RetRow w 5 (Lib.byteCells (pdF l))) := by
 obtain ⟨i8, hi8, hz8, hz81, hz82⟩ := info_parts u8_info
 obtain ⟨s, hs⟩ := ex_ (bs l)
 have hsz : s.size = l.length := by rw [hs, bs_size]
 have hby : ∀ k (hk : k < s.size) (hk2 : k < l.length), ((s[k]'hk).toNat : Int) = b2 l[k] := fun k hk hk2 => str_at hs hk hk2
 rw [<- hs]
 clear hs
 obtain ⟨N, hN⟩ := ex_ (s.size)
 have hsN : s.size = N := hN.symm
 have hNm : N <= 1024000000 := by omega
 have HBY := h_ hby; clear hby
 have HSZ := h_ hsz; clear hsz hl hN
 go_enter Tryz.func212, Tryz.ntmps212
 go_wp2_with fail
 obtain ⟨w1, hr, hown0, hgr⟩ := run_make_own (P := Tryz.prog) w w.heap.size 38 5 i8 (.int .u8 0) 1 Tryz.underlying38 hi8 hz8 hz81 .i64 .i64 N (by rw [hz82]; omega) (Nat.le_trans hNm (by decide)) (Nat.le_refl _)
 have hb1 : Below w.heap.size w w1 := ⟨hgr.os, hgr.tape, hgr.output, hgr.size, fun k hk => hgr.block k hk (by simp)⟩
 have HO0 := h_ hown0; clear hown0
 have HB1 := h_ hb1; clear hb1 hgr
 obtain ⟨T, hT⟩ := ex_ (pdF l)
 rw [<- hT]
 have HT := h_ hT; clear hT
 rw [hr]
 clear hr
 go_wp2_with fail
 go_loopw [3, 4] (fun ov iv wr => ∃ (k : Nat) (o : Bytes), k <= N ∧ iv = .int .i64 k ∧ wr.ownsRow w.heap.size 5 1 ov o.length (Lib.byteCells o) ∧ o ++ pdF (l.drop k) = T ∧ o.length <= k ∧ w.heap.size <= wr.heap.size ∧ Below w.heap.size w wr) (fun _ i _ => N - (intOf i).toNat)
 case atStart => exact ⟨0, [], by omega, by simp, HO0.out, by rw [HT.out]; rfl, by simp, HB1.out.size, HB1.out⟩
 case round =>
  obtain ⟨k, o, hk, rfl, hown, ho, hol, hwz, hbel⟩ := hrel
  have HO := h_ hown; clear hown
  have HB := h_ hbel; clear hbel
  have HC := h_ ho; clear ho
  by_cases hlt : k < N
  ·have hku : k < s.size := by omega
   have hkl : k < l.length := by have := HSZ.out; omega
   have hx := HBY.out k hku hkl
   obtain ⟨al, hal'⟩ : ∃ al, al = o.length := ⟨_, rfl⟩
   have ho := HO.out
   rw [<- hal'] at hol ho
   have HO1 := h_ ho; clear ho HO
   have HAL := h_ hal'; clear hal'
   have hmiss := pd_miss (l := l) (k := k) hkl
   have hhit := pd_hit (l := l) (k := k)
   obtain ⟨X, hX⟩ : ∃ X : Int, X = b2 l[k] := ⟨_, rfl⟩
   rw [<- hX] at hx
   have hmisse : ¬ (b2 l[k] = 37 ∧ ∃ h2 : k + 2 < l.length, 0 <= dgt (b2 l[k + 1]) 16 ∧ 0 <= dgt (b2 l[k + 2]) 16) -> ∀ (v2 : Value) (w2 : World), w2.ownsRow w.heap.size 5 1 v2 (al + 1) (Lib.byteCells o ++ [.int .u8 X]) -> ∃ o', w2.ownsRow w.heap.size 5 1 v2 o'.length (Lib.byteCells o') ∧ o' ++ pdF (l.drop (k + 1)) = T ∧ o'.length = al + 1 := fun hm v2 w2 h2 => by
    refine ⟨o ++ [l[k]], ?_, ?_, ?_⟩
    ·rw [List.length_append, <- HAL.out, bytes_snoc, <- hX]
     exact h2
    ·rw [<- HC.out, hmiss hm]; simp
    ·rw [List.length_append, <- HAL.out]; rfl
   clear hmiss
   have hw2 : IntKind.i64.wrap ((k : Int) + 2) = (k : Int) + 2 := IntWalk.i64_in _ (by omega)
   have hw1 : IntKind.i64.wrap ((k : Int) + 1) = (k : Int) + 1 := IntWalk.i64_in _ (by omega)
   by_cases h37 : X = 37
   ·by_cases hin : k + 2 < N
    ·have hk1 : k + 1 < s.size := by omega
     have hk2 : k + 2 < s.size := by omega
     have hk1l : k + 1 < l.length := by have := HSZ.out; omega
     have hk2l : k + 2 < l.length := by have := HSZ.out; omega
     have hx1 := HBY.out (k + 1) hk1 hk1l
     have hx2 := HBY.out (k + 2) hk2 hk2l
     have r1 := b2_lt l[k + 1]
     have r2 := b2_lt l[k + 2]
     have hd1 : ∀ W, Calls Tryz.prog 92 #[.int .u8 (b2 l[k + 1]), .int .i64 16] W fun e w' => e = .returned (.int .i64 (dgt (b2 l[k + 1]) 16)) ∧ w' = W := fun W => (digitA_any (b2 l[k + 1]) 16 W r1 (by omega)).mono (fun _ _ h => ⟨h.1, h.2.symm⟩)
     have hd2 : ∀ W, Calls Tryz.prog 92 #[.int .u8 (b2 l[k + 2]), .int .i64 16] W fun e w' => e = .returned (.int .i64 (dgt (b2 l[k + 2]) 16)) ∧ w' = W := fun W => (digitA_any (b2 l[k + 2]) 16 W r2 (by omega)).mono (fun _ _ h => ⟨h.1, h.2.symm⟩)
     have g1 := dgt_lt (b2 l[k + 1])
     have g2 := dgt_lt (b2 l[k + 2])
     have f1 := dgt_ge (b2 l[k + 1])
     have f2 := dgt_ge (b2 l[k + 2])
     obtain ⟨D, hD⟩ := ex_ (dgt (b2 l[k + 1]) 16)
     obtain ⟨E, hE⟩ := ex_ (dgt (b2 l[k + 2]) 16)
     rw [<- hD] at hd1 g1 f1
     rw [<- hE] at hd2 g2 f2
     have HD := h_ hD; clear hD
     have HE := h_ hE; clear hE
     by_cases hdg : 0 <= D ∧ 0 <= E
     ·obtain ⟨d0, e0⟩ := hdg
      have hv : pdV l[k + 1] l[k + 2] = D * 16 + E := by unfold pdV; rw [<- HD.out, <- HE.out]
      have hh := hhit hk2l (by rw [<- hX]; exact h37) (by rw [<- HD.out]; exact d0) (by rw [<- HE.out]; exact e0)
      rw [hv] at hh
      have hm1 : IntKind.i64.wrap (D * 16) = D * 16 := IntWalk.i64_in _ (by omega)
      have hm2 : IntKind.i64.wrap (D * 16 + E) = D * 16 + E := IntWalk.i64_in _ (by omega)
      have hm3 : IntKind.u8.wrap (D * 16 + E) = D * 16 + E := by rw [IntKind.wrap_u8]; omega
      have hge : ∀ (v2 : Value) (w2 : World), w2.ownsRow w.heap.size 5 1 v2 (al + 1) (Lib.byteCells o ++ [.int .u8 (D * 16 + E)]) -> ∃ o', w2.ownsRow w.heap.size 5 1 v2 o'.length (Lib.byteCells o') ∧ o' ++ pdF (l.drop (k + 3)) = T ∧ o'.length = al + 1 := fun v2 w2 h2 => by
       refine ⟨o ++ [UInt8.ofNat (D * 16 + E).toNat], ?_, ?_, ?_⟩
       ·rw [List.length_append, <- HAL.out, bytes_snoc, b2_of (by omega)]
        exact h2
       ·rw [<- HC.out, hh]; simp
       ·rw [List.length_append, <- HAL.out]; rfl
      have HM := h_ hge; clear hge hmisse hhit hh hv
      clear hX f1 f2
      subst h37
      have HD1 := h_ hd1; clear hd1
      have HD2 := h_ hd2; clear hd2
      obtain ⟨x1, hx1'⟩ : ∃ x, x = b2 l[k + 1] := ⟨_, rfl⟩
      obtain ⟨x2, hx2'⟩ : ∃ x, x = b2 l[k + 2] := ⟨_, rfl⟩
      rw [<- hx1'] at hx1 HD1 r1
      rw [<- hx2'] at hx2 HD2 r2
      clear hx1' hx2' HD HE
      obtain ⟨K1, hK1⟩ := ex_ (k + 1)
      obtain ⟨K2, hK2⟩ := ex_ (k + 2)
      have hx1k : ∀ h : K1 < s.size, ((s[K1]'h).toNat : Int) = x1 := fun h => by subst hK1; exact hx1
      have hx2k : ∀ h : K2 < s.size, ((s[K2]'h).toNat : Int) = x2 := fun h => by subst hK2; exact hx2
      have hk1' : K1 < s.size := by omega
      have hk2' : K2 < s.size := by omega
      have hk3' : K2 < N := by omega
      have hx1e := hx1k hk1'
      have hx2e := hx2k hk2'
      have hw1' : IntKind.i64.wrap ((k : Int) + 1) = (K1 : Int) := by rw [hw1]; omega
      have hw2' : IntKind.i64.wrap ((k : Int) + 2) = (K2 : Int) := by rw [hw2]; omega
      have HK2 := h_ hK2
      have HK1 := h_ hK1
      clear hx1 hx2 hx1k hx2k hk1 hk2 hw1 hw2 hin hK1 hK2 hk1l hk2l
      go_wp2_with fail
      go_quiet ((go_at_call 92; first | with_reducible exact Calls.quiet_of_same (HD1.out _) | with_reducible exact Calls.quiet_of_same (HD2.out _)))
      have hwz2 : w.heap.size <= (wr.drewN nq).heap.size := hwz
      have ho2 := own_below HO1.out (drewN_below (Below.refl wr.heap.size wr) nq)
      have HO3 := h_ ho2; clear ho2
      have HB3 := h_ (drewN_below HB.out nq)
      go_wp2_with (at_builtin; (refine push1 rfl (.tmp 43) (.tmp 49) _ rfl w.heap.size 5 i8 (.int .u8 0) 1 Tryz.underlying38 hi8 hz8 hz81 hz82 (by decide) _ _ _ (Lib.byteCells o) rfl HO3.out (.int .u8 (D * 16 + E)) rfl rfl (by omega) (by decide) (by omega) ?_); intro v2 w2 hown2 hw2 hb2; have HO2 := h_ hown2; clear hown2; have HB2 := h_ hb2; clear hb2)
      go_roundw
      case rel =>
       obtain ⟨o', a1, a2, a3⟩ := HM.out _ _ HO2.out
       have hk2e := HK2.out
       subst hk2e
       exact ⟨k + 3, o', by omega, by first | rfl | (simp; done) | (simp; omega), a1, a2, by omega, by omega, HB3.out.trans HB2.out⟩
      case measure => have := HK2.out; simp [intOf]; omega
     ·have HM := h_ (hmisse (fun a => hdg ⟨by rw [HD.out]; exact a.2.2.1, by rw [HE.out]; exact a.2.2.2⟩)); clear hmisse hhit
      clear hX
      subst h37
      have HD1 := h_ hd1; clear hd1
      have HD2 := h_ hd2; clear hd2
      obtain ⟨x1, hx1'⟩ : ∃ x, x = b2 l[k + 1] := ⟨_, rfl⟩
      obtain ⟨x2, hx2'⟩ : ∃ x, x = b2 l[k + 2] := ⟨_, rfl⟩
      rw [<- hx1'] at hx1 HD1 r1
      rw [<- hx2'] at hx2 HD2 r2
      clear hx1' hx2' HD HE
      obtain ⟨K1, hK1⟩ := ex_ (k + 1)
      obtain ⟨K2, hK2⟩ := ex_ (k + 2)
      have hx1k : ∀ h : K1 < s.size, ((s[K1]'h).toNat : Int) = x1 := fun h => by subst hK1; exact hx1
      have hx2k : ∀ h : K2 < s.size, ((s[K2]'h).toNat : Int) = x2 := fun h => by subst hK2; exact hx2
      have hk1' : K1 < s.size := by omega
      have hk2' : K2 < s.size := by omega
      have hk3' : K2 < N := by omega
      have hx1e := hx1k hk1'
      have hx2e := hx2k hk2'
      have hw1' : IntKind.i64.wrap ((k : Int) + 1) = (K1 : Int) := by rw [hw1]; omega
      have hw2' : IntKind.i64.wrap ((k : Int) + 2) = (K2 : Int) := by rw [hw2]; omega
      have HK2 := h_ hK2
      have HK1 := h_ hK1
      clear hx1 hx2 hx1k hx2k hk1 hk2 hw1 hw2 hin hK1 hK2 hk1l hk2l
      have hDE : D < 0 ∨ (0 <= D ∧ E < 0) := by omega
      clear hdg
      rcases hDE with hDE | ⟨hDE, hDE2⟩
      iterate 2
       ·go_wp2_with fail
        go_quiet ((go_at_call 92; first | with_reducible exact Calls.quiet_of_same (HD1.out _) | with_reducible exact Calls.quiet_of_same (HD2.out _)))
        have hwz2 : w.heap.size <= (wr.drewN nq).heap.size := hwz
        have ho2 := own_below HO1.out (drewN_below (Below.refl wr.heap.size wr) nq)
        have HO3 := h_ ho2; clear ho2
        have HB3 := h_ (drewN_below HB.out nq)
        go_wp2_with (at_builtin; (refine push1 rfl (.tmp 53) (.tmp 57) _ rfl w.heap.size 5 i8 (.int .u8 0) 1 Tryz.underlying38 hi8 hz8 hz81 hz82 (by decide) _ _ _ (Lib.byteCells o) rfl HO3.out (.int .u8 37) rfl rfl (by omega) (by decide) (by omega) ?_); intro v2 w2 hown2 hw2 hb2; have HO2 := h_ hown2; clear hown2; have HB2 := h_ hb2; clear hb2)
        go_roundw
        case rel =>
         obtain ⟨o', a1, a2, a3⟩ := HM.out _ _ HO2.out
         have hk1e := HK1.out
         subst hk1e
         exact ⟨k + 1, o', by omega, by first | rfl | (simp; done) | (simp; omega), a1, a2, by omega, by omega, HB3.out.trans HB2.out⟩
        case measure => have := HK1.out; simp [intOf]; omega
    ·have HM := h_ (hmisse (fun a => hin (by have := a.2.1; have := HSZ.out; omega))); clear hmisse hhit
     subst h37
     have HX := h_ hX; clear hX
     go_wp2_with (at_builtin; (refine push1 rfl (.tmp 53) (.tmp 57) _ rfl w.heap.size 5 i8 (.int .u8 0) 1 Tryz.underlying38 hi8 hz8 hz81 hz82 (by decide) _ _ _ (Lib.byteCells o) rfl HO1.out (.int .u8 37) rfl rfl (by omega) (by decide) (by omega) ?_); intro v2 w2 hown2 hw2 hb2; have HO2 := h_ hown2; clear hown2; have HB2 := h_ hb2; clear hb2)
     go_roundw
     case rel =>
      obtain ⟨o', a1, a2, a3⟩ := HM.out _ _ HO2.out
      exact ⟨k + 1, o', by omega, by simp, a1, a2, by omega, by omega, HB.out.trans HB2.out⟩
     case measure => simp [intOf]; omega
   ·have HM := h_ (hmisse (fun a => h37 (by rw [hX]; exact a.1))); clear hmisse hhit
    have HX := h_ hX; clear hX
    go_wp2_with (at_builtin; (refine push1 rfl (.tmp 53) (.tmp 57) _ rfl w.heap.size 5 i8 (.int .u8 0) 1 Tryz.underlying38 hi8 hz8 hz81 hz82 (by decide) _ _ _ (Lib.byteCells o) rfl HO1.out (.int .u8 X) rfl rfl (by omega) (by decide) (by omega) ?_); intro v2 w2 hown2 hw2 hb2; have HO2 := h_ hown2; clear hown2; have HB2 := h_ hb2; clear hb2)
    go_roundw
    case rel =>
     obtain ⟨o', a1, a2, a3⟩ := HM.out _ _ HO2.out
     exact ⟨k + 1, o', by omega, by simp, a1, a2, by omega, by omega, HB.out.trans HB2.out⟩
    case measure => simp [intOf]; omega
  ·obtain rfl : k = N := by omega
   have he : l.drop k = [] := List.drop_eq_nil_of_le (by have := HSZ.out; omega)
   have hc := HC.out
   rw [he, show pdF [] = [] from by simp [pdF], List.append_nil] at hc
   have HO3 := h_ (show wr.ownsRow w.heap.size 5 1 _ (Lib.byteCells T).length (Lib.byteCells T) by rw [Lib.byteCells_length, <- hc]; exact HO.out)
   go_wp2_with fail
   go_ret
   have h3 := HO3.out
   rw [HT.out] at h3
   exact ⟨_, rfl, h3, HB.out⟩
end Go.Proofs.YtpckaimpjccjhaaGreatDoor
