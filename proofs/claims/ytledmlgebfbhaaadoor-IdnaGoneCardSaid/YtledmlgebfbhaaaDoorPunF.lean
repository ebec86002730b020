/- The reference's letters. -/
import Derived.Test.YtledmlgebfbhaaaDoorPunE
namespace Go.Proofs.YtledmlgebfbhaaaDoor
open Go.RowKit

/-- the 36 digits -/
def DG : ByteArray := ⟨#[97, 98, 99, 100, 101, 102, 103, 104, 105, 106, 107, 108, 109, 110, 111, 112, 113, 114, 115, 116, 117, 118, 119, 120, 121, 122, 48, 49, 50, 51, 52, 53, 54, 55, 56, 57]⟩
theorem DG_at : ∀ k : Fin 36, DG.extract k.val (k.val + 1) = bs [db k.val] := by decide

set_option maxRecDepth 8000 in
set_option maxHeartbeats 2000000 in
theorem letters_any (d bias : Int) (w : World) (hd : 0 ≤ d ∧ d < 1099511627776) (hb : 0 ≤ bias ∧ bias ≤ 1000000) :
    Calls Tryd.prog 73 #[.int .i64 d, .int .i64 bias] w fun e w' => e = .returned (S (digs d bias)) ∧ w = w' := by
  obtain ⟨T, hT⟩ : ∃ T, T = digs d bias := ⟨_, rfl⟩
  rw [← hT]
  have HT := Lib.hid hT; clear hT
  go_enter Tryd.func73, Tryd.ntmps73
  go_wp2
  go_loopw [0, 6, 7] (fun dv sv jv wr => ∃ (f j q : Nat) (d : Int) (acc : Bytes), dv = .int .i64 d ∧ jv = .int .i64 j ∧ sv = .string (bs acc) ∧ acc.length ≤ j ∧
      acc ++ dgGo f j d bias = T ∧ 0 ≤ d ∧ d < 1099511627776 ∧ d < 2 ^ f ∧ d < 4 ^ q ∧ j + q ≤ 20 ∧ wr = w) (fun dv _ _ _ => (intOf dv).toNat)
  case atStart => exact ⟨40, 0, 20, d, [], rfl, rfl, rfl, by simp, HT.out.symm, hd.1, hd.2, by omega, by omega, by omega, rfl⟩
  case round =>
    obtain ⟨f, j, q, d, acc, rfl, rfl, rfl, hal, hacc, hd0, hd1, hdf, hdq, hjq, rfl⟩ := hrel
    have hbr := bnd_range j bias
    have hba := fun W => rbound_any j bias W (by omega) hb
    obtain ⟨b, hb'⟩ : ∃ b, b = bnd j bias := ⟨_, rfl⟩
    have hlast := dgGo_last f j (d := d) (bias := bias)
    have hmore := dgGo_more (f := f) (j := j) (d := d) (bias := bias)
    rw [← hb'] at hbr hba hlast hmore
    have HBA := Lib.hid hba; clear hba hb'
    obtain ⟨sa, hsa⟩ : ∃ sa, sa = bs acc := ⟨_, rfl⟩
    have hsz : sa.size ≤ 40 := by rw [hsa, bs_size]; omega
    rw [← hsa]
    by_cases hlt : d < b
    · rw [hlast hlt] at hacc
      have hex : DG.extract d.toNat (d + 1).toNat = bs [db d] := by
        have := DG_at ⟨d.toNat, by omega⟩
        simp only at this
        rw [show (d + 1).toNat = d.toNat + 1 by omega, this, show ((d.toNat : Nat) : Int) = d by omega]
      unfold DG at hex
      clear hlast hmore hdf hdq
      have HAC := Lib.hid hacc; clear hacc
      go_wp2_with (first
          | (go_at_call 85; refine (HBA.out _).mono ?_; rintro e w2 ⟨rfl, rfl⟩))
      go_ret
      refine ⟨ret1_str ?_, rfl⟩
      rw [bs_app, ls_bs, ls_bs, HAC.out]
    · obtain ⟨g, rfl, hmo, hdg2⟩ := hmore hlt hdf hd0
      rw [hmo] at hacc
      have hr : 0 ≤ (d - b) % (36 - b) ∧ (d - b) % (36 - b) < 36 - b := ⟨Int.emod_nonneg _ (by omega), Int.emod_lt_of_pos _ (by omega)⟩
      have hq : 0 ≤ (d - b) / (36 - b) ∧ (d - b) / (36 - b) ≤ d - b := ⟨Int.ediv_nonneg (by omega) (by omega), Int.ediv_le_self _ (by omega)⟩
      have hq4 : ∃ q', q = q' + 1 ∧ (d - b) / (36 - b) < 4 ^ q' := by
        cases q with
        | zero => simp at hdq; omega
        | succ q' =>
          refine ⟨q', rfl, ?_⟩
          rw [Int.pow_succ] at hdq
          have h1 : (d - b) / (36 - b) ≤ (d - b) / 4 := by
            refine Int.le_ediv_of_mul_le (by omega) ?_
            have h2 : (d - b) / (36 - b) * (36 - b) ≤ d - b := Int.ediv_mul_le _ (by omega)
            have h3 : (d - b) / (36 - b) * 4 ≤ (d - b) / (36 - b) * (36 - b) := Int.mul_le_mul_of_nonneg_left (by omega) (Int.ediv_nonneg (by omega) (by omega))
            omega
          omega
      obtain ⟨q', rfl, hdq'⟩ := hq4
      have ht1 : Int.tmod (d - b) (36 - b) = (d - b) % (36 - b) := Int.tmod_eq_emod_of_nonneg (by omega)
      have ht2 : Int.tdiv (d - b) (36 - b) = (d - b) / (36 - b) := tdiv_pos (by omega)
      obtain ⟨r, hrr⟩ : ∃ r, r = b + (d - b) % (36 - b) := ⟨_, rfl⟩
      have hr36 : 0 ≤ r ∧ r < 36 := by omega
      have hex : DG.extract r.toNat (r + 1).toNat = bs [db r] := by
        have := DG_at ⟨r.toNat, by omega⟩
        simp only at this
        rw [show (r + 1).toNat = r.toNat + 1 by omega, this, show ((r.toNat : Nat) : Int) = r by omega]
      unfold DG at hex
      rw [hrr] at hex hr36
      clear hlast hmore hdf hdq
      have HAC := Lib.hid hacc; clear hacc hmo
      have HG2 := Lib.hid hdg2; clear hdg2
      have HQ2 := Lib.hid hdq'; clear hdq'
      have HR := Lib.hid hrr; clear hrr
      go_wp2_with (first
          | (go_at_call 85; refine (HBA.out _).mono ?_; rintro e w2 ⟨rfl, rfl⟩))
      go_roundw
      case rel =>
        refine ⟨g, j + 1, q', (d - b) / (36 - b), acc ++ [db (b + (d - b) % (36 - b))], by simp, by simp, ?_, by rw [List.length_append]; simp; omega, by rw [List.append_assoc]; exact HAC.out, by omega, by omega, HG2.out, HQ2.out, by omega, trivial⟩
        first | rfl | (rw [bs_app])
      case measure => simp [intOf]; omega
end Go.Proofs.YtledmlgebfbhaaaDoor
