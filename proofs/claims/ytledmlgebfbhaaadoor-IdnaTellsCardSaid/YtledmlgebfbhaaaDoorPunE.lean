/- puny: write, and the reference's letters. -/
import Derived.Test.YtledmlgebfbhaaaDoorPunD
namespace Go.Proofs.YtledmlgebfbhaaaDoor
open Go.RowKit

/-- a digit as a byte -/
def db (d : Int) : UInt8 := UInt8.ofNat (dig d).toNat
theorem dig_range {d : Int} (h : 0 ≤ d ∧ d < 36) : 48 ≤ dig d ∧ dig d ≤ 122 := by unfold dig; split <;> omega
theorem b2_db {d : Int} (h : 0 ≤ d ∧ d < 36) : b2 (db d) = dig d := by
  have := dig_range h
  unfold b2 db
  rw [UInt8.toNat_ofNat']
  omega
/-- the digits of the number d, from the j-th on -/
def dgGo : Nat → Nat → Int → Int → Bytes
  | 0, _, d, _ => [db d]
  | f + 1, j, d, bias => if d < bnd j bias then [db d] else db (bnd j bias + (d - bnd j bias) % (36 - bnd j bias)) :: dgGo f (j + 1) ((d - bnd j bias) / (36 - bnd j bias)) bias
def digs (d bias : Int) : Bytes := dgGo 40 0 d bias
theorem dgGo_last (f j : Nat) {d bias : Int} (h : d < bnd j bias) : dgGo f j d bias = [db d] := by
  cases f with
  | zero => rfl
  | succ f => unfold dgGo; rw [if_pos h]
theorem dgGo_more {f j : Nat} {d bias : Int} (h : ¬ d < bnd j bias) (hf : d < 2 ^ f) (h0 : 0 ≤ d) :
    ∃ g, f = g + 1 ∧ dgGo f j d bias = db (bnd j bias + (d - bnd j bias) % (36 - bnd j bias)) :: dgGo g (j + 1) ((d - bnd j bias) / (36 - bnd j bias)) bias ∧ (d - bnd j bias) / (36 - bnd j bias) < 2 ^ g := by
  have hb := bnd_range j bias
  cases f with
  | zero => simp at hf; omega
  | succ g =>
    refine ⟨g, rfl, by rw [dgGo, if_neg h], ?_⟩
    rw [Int.pow_succ] at hf
    have h1 : (d - bnd j bias) / (36 - bnd j bias) ≤ (d - bnd j bias) / 2 := by
      refine Int.le_ediv_of_mul_le (by omega) ?_
      have h2 : (d - bnd j bias) / (36 - bnd j bias) * (36 - bnd j bias) ≤ d - bnd j bias := Int.ediv_mul_le _ (by omega)
      have h3 : (d - bnd j bias) / (36 - bnd j bias) * 2 ≤ (d - bnd j bias) / (36 - bnd j bias) * (36 - bnd j bias) := Int.mul_le_mul_of_nonneg_left (by omega) (Int.ediv_nonneg (by omega) (by omega))
      omega
    omega

/-- what a function answers that writes behind an own row -/
def RetW (w : World) (base : Nat) (l : Bytes) : Ending → World → Prop := fun en w' =>
  ∃ v', en = .returned v' ∧ w'.ownsRow base 5 1 v' l.length (Lib.byteCells l) ∧ w.heap.size ≤ w'.heap.size ∧ Below base w w'

set_option maxRecDepth 8000 in
set_option maxHeartbeats 2000000 in
theorem write_any (v : Value) (l : Bytes) (d bias : Int) (base : Nat) (w : World) (h : w.ownsRow base 5 1 v l.length (Lib.byteCells l)) (hl : l.length ≤ 1000000) (hbase : base ≤ w.heap.size)
    (hd : 0 ≤ d ∧ d < 1099511627776) (hb : 0 ≤ bias ∧ bias ≤ 1000000) :
    Calls Tryd.prog 66 #[v, .int .i64 d, .int .i64 bias] w fun e w' => RetW w base (l ++ digs d bias) e w' := by
  obtain ⟨i8, hi8, hz8, hz81, hz82⟩ := info_parts u8_info
  obtain ⟨T, hT⟩ : ∃ T, T = l ++ digs d bias := ⟨_, rfl⟩
  rw [← hT]
  have HT := Lib.hid hT; clear hT
  have H := Lib.hid h; clear h
  have HLL := Lib.hid hl; clear hl
  go_enter Tryd.func66, Tryd.ntmps66
  go_wp2
  go_loopw [0, 1, 7] (fun ov dv jv wr => ∃ (f j : Nat) (d : Int) (acc : Bytes), dv = .int .i64 d ∧ jv = .int .i64 j ∧ wr.ownsRow base 5 1 ov acc.length (Lib.byteCells acc) ∧ acc.length ≤ 1000000 + j ∧
      acc ++ dgGo f j d bias = T ∧ 0 ≤ d ∧ d < 1099511627776 ∧ d < 2 ^ f ∧ j + f ≤ 40 ∧ w.heap.size ≤ wr.heap.size ∧ Below base w wr) (fun _ dv _ _ => (intOf dv).toNat)
  case atStart => exact ⟨40, 0, d, l, rfl, rfl, H.out, by have := HLL.out; omega, HT.out.symm, hd.1, hd.2, by omega, by omega, Nat.le_refl _, Below.refl _ _⟩
  case round =>
    obtain ⟨f, j, d, acc, rfl, rfl, hown, hal, hacc, hd0, hd1, hdf, hjf, hwz, hbel⟩ := hrel
    have HO := Lib.hid hown; clear hown
    have HB := Lib.hid hbel; clear hbel
    have hbr := bnd_range j bias
    have hba := fun W => bound_any j bias W (by omega) hb
    obtain ⟨b, hb'⟩ : ∃ b, b = bnd j bias := ⟨_, rfl⟩
    have hlast := dgGo_last f j (d := d) (bias := bias)
    have hmore := dgGo_more (f := f) (j := j) (d := d) (bias := bias)
    rw [← hb'] at hbr hba hlast hmore
    have HBA := Lib.hid hba; clear hba hb'
    by_cases hlt : d < b
    · rw [hlast hlt] at hacc
      have hdr : 0 ≤ d ∧ d < 36 := by omega
      have hdg := fun W => digit_any d W hdr
      have hb2 := b2_db hdr
      have hsn := bytes_snoc acc (db d)
      rw [hb2] at hsn
      rw [hacc] at hsn
      have hTl : T.length = acc.length + 1 := by rw [← hacc]; simp
      obtain ⟨y, hy⟩ : ∃ y, y = dig d := ⟨_, rfl⟩
      rw [← hy] at hdg hsn
      have HDG := Lib.hid hdg; clear hdg hb2 hy hlast hmore hdf hdr
      have HSN := Lib.hid hsn; clear hsn hacc
      have HTL := Lib.hid hTl; clear hTl
      obtain ⟨al, hal'⟩ : ∃ al, al = acc.length := ⟨_, rfl⟩
      have ho := HO.out
      rw [← hal'] at hal ho
      have HO1 := Lib.hid ho; clear ho HO
      have HAL := Lib.hid hal'; clear hal'
      go_wp2_with (first
        | (go_at_call 57; refine (HBA.out _).mono ?_; rintro e w2 ⟨rfl, rfl⟩)
        | (go_at_call 82; refine (HDG.out _).mono ?_; rintro e w2 ⟨rfl, rfl⟩)
        | (at_builtin; (refine push1 rfl (.tmp 17) (.tmp 20) _ rfl base 5 i8 (.int .u8 0) 1 Tryd.underlying36 hi8 hz8 hz81 hz82 (by decide) _ _ _ (Lib.byteCells acc) rfl HO1.out (.int .u8 y) rfl rfl (by omega) (by decide) (by omega) ?_); intro v2 w2 hown2 hw2 hb2; have HO2 := Lib.hid hown2; clear hown2; have HB2 := Lib.hid hb2; clear hb2))
      go_ret
      refine ⟨_, rfl, ?_, by omega, HB.out.trans HB2.out⟩
      rw [HTL.out, HSN.out, ← HAL.out]
      exact HO2.out
    · obtain ⟨g, rfl, hmo, hdg2⟩ := hmore hlt hdf hd0
      rw [hmo] at hacc
      have hr : 0 ≤ (d - b) % (36 - b) ∧ (d - b) % (36 - b) < 36 - b := ⟨Int.emod_nonneg _ (by omega), Int.emod_lt_of_pos _ (by omega)⟩
      have hq : 0 ≤ (d - b) / (36 - b) ∧ (d - b) / (36 - b) ≤ d - b := ⟨Int.ediv_nonneg (by omega) (by omega), Int.ediv_le_self _ (by omega)⟩
      have ht1 : Int.tmod (d - b) (36 - b) = (d - b) % (36 - b) := Int.tmod_eq_emod_of_nonneg (by omega)
      have ht2 : Int.tdiv (d - b) (36 - b) = (d - b) / (36 - b) := tdiv_pos (by omega)
      have hdr : 0 ≤ b + (d - b) % (36 - b) ∧ b + (d - b) % (36 - b) < 36 := by omega
      have hdg := fun W => digit_any _ W hdr
      have hb2 := b2_db hdr
      have hsn := bytes_snoc acc (db (b + (d - b) % (36 - b)))
      rw [hb2] at hsn
      obtain ⟨y, hy⟩ : ∃ y, y = dig (b + (d - b) % (36 - b)) := ⟨_, rfl⟩
      rw [← hy] at hdg hsn
      have HDG := Lib.hid hdg; clear hdg hb2 hy hlast hmore hdf hdr
      have HSN := Lib.hid hsn; clear hsn
      have HAC := Lib.hid hacc; clear hacc hmo
      have HG2 := Lib.hid hdg2; clear hdg2
      obtain ⟨al, hal'⟩ : ∃ al, al = acc.length := ⟨_, rfl⟩
      have ho := HO.out
      rw [← hal'] at hal ho
      have HO1 := Lib.hid ho; clear ho HO
      have HAL := Lib.hid hal'; clear hal'
      go_wp2_with (first
        | (go_at_call 57; refine (HBA.out _).mono ?_; rintro e w2 ⟨rfl, rfl⟩)
        | (go_at_call 82; refine (HDG.out _).mono ?_; rintro e w2 ⟨rfl, rfl⟩)
        | (at_builtin; (refine push1 rfl (.tmp 25) (.tmp 33) _ rfl base 5 i8 (.int .u8 0) 1 Tryd.underlying36 hi8 hz8 hz81 hz82 (by decide) _ _ _ (Lib.byteCells acc) rfl HO1.out (.int .u8 y) rfl rfl (by omega) (by decide) (by omega) ?_); intro v2 w2 hown2 hw2 hb2; have HO2 := Lib.hid hown2; clear hown2; have HB2 := Lib.hid hb2; clear hb2))
      go_roundw
      case rel =>
        refine ⟨g, j + 1, (d - b) / (36 - b), acc ++ [db (b + (d - b) % (36 - b))], by simp, by simp, ?_, by rw [List.length_append, ← HAL.out]; simp; omega, ?_, by omega, by omega, HG2.out, by omega, by omega, HB.out.trans HB2.out⟩
        · rw [List.length_append, ← HAL.out, HSN.out]
          exact HO2.out
        · rw [List.append_assoc]; exact HAC.out
      case measure => simp [intOf]; omega
end Go.Proofs.YtledmlgebfbhaaaDoor
