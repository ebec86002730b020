/- Plain laws of puny: what is read of one number that was written. -/
import Derived.Test.YtledmlgebfbhaaaDoorPunK
import Derived.Test.YtledmlgebfbhaaaDoorPunQ
namespace Go.Proofs.YtledmlgebfbhaaaDoor
open Go.RowKit
set_option maxRecDepth 10000

theorem dec_one {f : Nat} {d bias p0 n0 n : Int} {first : Bool} {l : List Int} {pos : Nat} (rest : Bytes) (h0 : 0 ≤ d) (h1 : d ≤ 2147483647) (hp : p0 + d = (n - n0) * (l.length + 1) + pos) (hpos : pos ≤ l.length) (hl : l.length < 255) (hn : sg n = true) :
    decGo (f + 1) (digs d bias ++ rest) l p0 n0 bias first = decGo f rest (l.take pos ++ n :: l.drop pos) (pos + 1) n (nb d (l.length + 1) first) false := by
  have hd := (digs_len d bias).1
  rw [decGo_more f (by rw [List.length_append]; omega), rd_digs rest h0 h1]
  have hq : (p0 + d) / ((l.length : Int) + 1) = n - n0 := by
    rw [hp, Int.add_comm, Int.add_mul_ediv_right _ _ (by omega), Int.ediv_eq_zero_of_lt (by omega) (by omega)]
    omega
  have hr : (p0 + d) % ((l.length : Int) + 1) = pos := by
    rw [hp, Int.add_comm, Int.add_mul_emod_self_right]
    exact Int.emod_eq_of_lt (by omega) (by omega)
  simp only [hq, hr, Int.toNat_natCast]
  rw [show n0 + (n - n0) = n by omega, if_neg (by omega), if_neg (by rw [hn]; simp; omega), List.drop_left]

theorem decGo_same : ∀ (f g : Nat) (s : Bytes) (l : List Int) (p n bias : Int) (first : Bool), s.length ≤ f → s.length ≤ g → decGo f s l p n bias first = decGo g s l p n bias first
  | 0, g, s, l, p, n, bias, first, h, _ => by rw [decGo_end 0 (by omega), decGo_end g (by omega)]
  | f + 1, 0, s, l, p, n, bias, first, _, h => by rw [decGo_end (f + 1) (by omega), decGo_end 0 (by omega)]
  | f + 1, g + 1, s, l, p, n, bias, first, h, h' => by
    by_cases h0 : s.length = 0
    · rw [decGo_end _ h0, decGo_end _ h0]
    · rw [decGo_more f h0, decGo_more g h0]
      have hr := rd_range s bias
      by_cases hk : (rd s bias).2 = 0
      · rw [if_pos hk, if_pos hk]
      · rw [if_neg hk, if_neg hk]
        rw [decGo_same f g _ _ _ _ _ _ (by rw [List.length_drop]; omega) (by rw [List.length_drop]; omega)]
/-- what is read of a text -/
def decA (s : Bytes) (l : List Int) (p n bias : Int) (first : Bool) : Option (List Int) := decGo s.length s l p n bias first
theorem decA_of {f : Nat} {s : Bytes} {l : List Int} {p n bias : Int} {first : Bool} (h : s.length ≤ f) : decGo f s l p n bias first = decA s l p n bias first := decGo_same _ _ _ _ _ _ _ _ h (Nat.le_refl _)
theorem decA_one {d bias p0 n0 n : Int} {first : Bool} {l : List Int} {pos : Nat} (rest : Bytes) (h0 : 0 ≤ d) (h1 : d ≤ 2147483647) (hp : p0 + d = (n - n0) * (l.length + 1) + pos) (hpos : pos ≤ l.length) (hl : l.length < 255) (hn : sg n = true) :
    decA (digs d bias ++ rest) l p0 n0 bias first = decA rest (l.take pos ++ n :: l.drop pos) (pos + 1) n (nb d (l.length + 1) first) false := by
  have hd := (digs_len d bias).1
  rw [← decA_of (f := (digs d bias ++ rest).length + 1) (by omega), dec_one rest h0 h1 hp hpos hl hn, decA_of (by rw [List.length_append]; omega)]
end Go.Proofs.YtledmlgebfbhaaaDoor
