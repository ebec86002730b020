/- TextD TextE TextF TextG: joined. -/
import Derived.Deep.QuietTactic
import Derived.BigQuiet
import Derived.Test.YtpckaimpjccjhaaGreatDoorGSlic
set_option maxHeartbeats 40000000
namespace Go.Proofs.YtpckaimpjccjhaaGreatDoor
open Go.RowKit
set_option maxRecDepth 10000
def nextGo : Bytes -> Nat -> Nat -> Int -> Int -> Int -> Int × Int × Bool
 | _, 0, k, c, _, _ => (c, k, true)
 | [], _ + 1, k, _, _, _ => (0xfffd, k, false)
 | x :: r, m + 1, k, c, lo, hi => if b2 x < lo ∨ hi < b2 x then (0xfffd, k, false) else nextGo r m (k + 1) (64 * c + b2 x - 0x80) 0x80 0xbf
def nextF : Bytes -> Int × Int × Bool
 | [] => (0, 0, false)
 | x :: r =>
  let t := leadF (b2 x)
  if t.1 = 1 then (b2 x, 1, true)
  else if t.1 = 0 then (0xfffd, 1, false)
  else if t.1 = 2 then nextGo r 1 1 (b2 x % 32) t.2.1 t.2.2
  else if t.1 = 3 then nextGo r 2 1 (b2 x % 16) t.2.1 t.2.2
  else nextGo r 3 1 (b2 x % 8) t.2.1 t.2.2

theorem nextGo_le : ∀ (r : Bytes) (m k : Nat) (c lo hi : Int), (k : Int) <= (nextGo r m k c lo hi).2.1 ∧ (nextGo r m k c lo hi).2.1 <= (k : Int) + r.length
 | _, 0, k, c, _, _ => by simp [nextGo]; omega
 | [], _ + 1, k, _, _, _ => by simp [nextGo]
 | x :: r, m + 1, k, c, lo, hi => by
  unfold nextGo
  split
  ·simp; omega
  ·have := nextGo_le r m (k + 1) (64 * c + b2 x - 0x80) 0x80 0xbf
   simp only [List.length_cons]
   omega
def nextN (l : Bytes) : Nat := (nextF l).2.1.toNat
theorem nextF_n (x : UInt8) (r : Bytes) : (nextF (x :: r)).2.1 = (nextN (x :: r) : Int) ∧ 1 <= nextN (x :: r) ∧ nextN (x :: r) <= r.length + 1 := by
 have h : 1 <= (nextF (x :: r)).2.1 ∧ (nextF (x :: r)).2.1 <= 1 + r.length := by
  unfold nextF
  simp only
  split
  ·simp; omega
  split
  ·simp; omega
  split
  ·have := nextGo_le r 1 1 (b2 x % 32) (leadF (b2 x)).2.1 (leadF (b2 x)).2.2; omega
  split
  ·have := nextGo_le r 2 1 (b2 x % 16) (leadF (b2 x)).2.1 (leadF (b2 x)).2.2; omega
  ·have := nextGo_le r 3 1 (b2 x % 8) (leadF (b2 x)).2.1 (leadF (b2 x)).2.2; omega
 unfold nextN
 omega
def signsF : Nat -> Bytes -> List Int
 | 0, _ => []
 | _, [] => []
 | f + 1, x :: r => (nextF (x :: r)).1 :: signsF f ((x :: r).drop (nextN (x :: r)))
def signs (l : Bytes) : List Int := signsF l.length l
theorem signsF_cons (f : Nat) (x : UInt8) (r : Bytes) : signsF (f + 1) (x :: r) = (nextF (x :: r)).1 :: signsF f ((x :: r).drop (nextN (x :: r))) := rfl
theorem signsF_same : ∀ (f g : Nat) (l : Bytes), l.length <= f -> l.length <= g -> signsF f l = signsF g l
 | 0, g, l, h, _ => by
  obtain rfl : l = [] := List.eq_nil_of_length_eq_zero (by omega)
  cases g <;> rfl
 | f + 1, 0, l, _, h => by
  obtain rfl : l = [] := List.eq_nil_of_length_eq_zero (by omega)
  rfl
 | f + 1, g + 1, [], _, _ => rfl
 | f + 1, g + 1, x :: r, h, h' => by
  have hn := nextF_n x r
  rw [List.length_cons] at h h'
  have hd : ((x :: r).drop (nextN (x :: r))).length <= r.length := by rw [List.length_drop, List.length_cons]; omega
  rw [signsF_cons, signsF_cons, signsF_same f g _ (by omega) (by omega)]
theorem signs_nil : signs [] = [] := rfl
theorem signs_cons (x : UInt8) (r : Bytes) : signs (x :: r) = (nextF (x :: r)).1 :: signs ((x :: r).drop (nextN (x :: r))) := by
 have hn := nextF_n x r
 have hd : ((x :: r).drop (nextN (x :: r))).length <= r.length := by rw [List.length_drop, List.length_cons]; omega
 unfold signs
 rw [List.length_cons, signsF_cons, signsF_same r.length _ _ hd (Nat.le_refl _)]
theorem At.from_ {w : World} {b o k : Nat} {xs : List Value} (h : At w b o xs) : At w b (o + k) (xs.drop k) := fun j hj => by
 have hj' : k + j < xs.length := by simp at hj; omega
 have := h (k + j) hj'
 rw [Nat.add_assoc, this]
 simp
theorem At.from' {w : World} {b o o' k c : Nat} {l : Bytes} (h : At w b o (Lib.byteCells l)) (hl : l.length <= c) (ho : k < c -> o' = o + k) : At w b o' (Lib.byteCells (l.drop k)) := by
 by_cases hk : k < c
 ·rw [ho hk]
  have := h.from_ (k := k)
  rwa [show (Lib.byteCells l).drop k = Lib.byteCells (l.drop k) by simp [Lib.byteCells]] at this
 ·intro j hj
  simp [Lib.byteCells] at hj
  omega

def joinF (l : List Int) : Bytes := l.flatMap enc
theorem joinF_cons (c : Int) (l : List Int) : joinF (c :: l) = enc c ++ joinF l := rfl
theorem enc_len (c : Int) : 1 <= (enc c).length ∧ (enc c).length <= 4 := by
 by_cases hb : c < 0 ∨ 0x10ffff < c ∨ (0xd800 <= c ∧ c <= 0xdfff)
 ·rw [enc_bad hb]; simp
 by_cases h1 : c < 0x80
 ·rw [enc_1 (by omega) h1]; simp
 by_cases h2 : c < 0x800
 ·rw [enc_2 (by omega) h2]; simp
 by_cases h3 : c < 0x10000
 ·rw [enc_3 (by omega) h3 (by omega)]; simp
 ·rw [enc_4 (by omega) (by omega)]; simp
theorem joinF_len (l : List Int) : (joinF l).length <= 4 * l.length := by
 induction l with
 | nil => simp [joinF]
 | cons c r ih => rw [joinF_cons, List.length_append, List.length_cons]; have := enc_len c; omega
theorem signs_len : ∀ (n : Nat) (l : Bytes), l.length <= n -> (signs l).length <= l.length
 | _, [], _ => by simp [signs_nil]
 | 0, x :: r, h => by simp at h
 | n + 1, x :: r, h => by
  have hn := nextF_n x r
  rw [List.length_cons] at h
  have hd : ((x :: r).drop (nextN (x :: r))).length <= r.length := by rw [List.length_drop, List.length_cons]; omega
  have := signs_len n ((x :: r).drop (nextN (x :: r))) (by omega)
  rw [signs_cons, List.length_cons, List.length_cons]
  omega
def rdec (l : Bytes) : Bytes := joinF (signs l)

def begGo : Bytes -> Nat -> Nat -> Int -> Int -> Nat
 | _, 0, k, _, _ => k
 | [], _ + 1, k, _, _ => k
 | x :: r, m + 1, k, lo, hi => if lo <= b2 x ∧ b2 x <= hi then begGo r m (k + 1) 0x80 0xbf else k
def begF : Bytes -> Nat
 | [] => 0
 | x :: r => begGo r ((behindF (b2 x)).2.2.toNat - 1) 1 (behindF (b2 x)).1 (behindF (b2 x)).2.1
theorem behind_range (c : Int) : (1 <= (behindF c).2.2 ∧ (behindF c).2.2 <= 4) ∧ 0 <= (behindF c).1 ∧ (behindF c).1 < 256 ∧ 0 <= (behindF c).2.1 ∧ (behindF c).2.1 < 256 := by
 unfold behindF
 repeat (first | split | (refine ⟨⟨?_, ?_⟩, ?_, ?_, ?_, ?_⟩ <;> simp))
theorem begGo_le : ∀ (r : Bytes) (m k : Nat) (lo hi : Int), k <= begGo r m k lo hi ∧ begGo r m k lo hi <= k + r.length
 | _, 0, k, _, _ => by simp [begGo]
 | [], _ + 1, k, _, _ => by simp [begGo]
 | x :: r, m + 1, k, lo, hi => by
  unfold begGo
  split
  ·have := begGo_le r m (k + 1) 0x80 0xbf
   simp only [List.length_cons]
   omega
  ·simp
theorem begF_le (x : UInt8) (r : Bytes) : 1 <= begF (x :: r) ∧ begF (x :: r) <= r.length + 1 := by
 have := begGo_le r ((behindF (b2 x)).2.2.toNat - 1) 1 (behindF (b2 x)).1 (behindF (b2 x)).2.1
 simp only [begF]
 omega
theorem begGo_end {l : Bytes} {k m : Nat} {lo hi : Int} (h : l.length <= k) : begGo (l.drop k) (m + 1) k lo hi = k := by
 rw [List.drop_eq_nil_of_le h]; rfl
theorem begGo_bad {l : Bytes} {k m : Nat} {lo hi : Int} (h : k < l.length) (hb : ¬ (lo <= b2 l[k] ∧ b2 l[k] <= hi)) : begGo (l.drop k) (m + 1) k lo hi = k := by
 rw [List.drop_eq_getElem_cons h]; simp only [begGo]; rw [if_neg hb]
theorem begGo_ok {l : Bytes} {k m : Nat} {lo hi : Int} (h : k < l.length) (hb : lo <= b2 l[k] ∧ b2 l[k] <= hi) : begGo (l.drop k) (m + 1) k lo hi = begGo (l.drop (k + 1)) m (k + 1) 0x80 0xbf := by
 rw [List.drop_eq_getElem_cons h]; simp only [begGo]; rw [if_pos hb]
theorem beginning_any (l : Bytes) (cap b o : Nat) (w : World) (hm : l.length <= maxLen) (h0 : 0 < l.length) (h : At w b o (Lib.byteCells l)) :
  Calls Tryz.prog 76 #[.slice (some ⟨b, o, none⟩) l.length cap] w fun e w' => e = .returned (.int .i64 (begF l)) ∧ w = w' := by
 unfold maxLen at hm
 have H : ∀ k (hk : k < l.length), w.cell? ⟨b, o + k, none⟩ = some (.int .u8 (b2 l[k])) := fun k hk => by
  have := h k (by simpa [Lib.byteCells] using hk)
  simpa [Lib.byteCells, b2] using this
 have hc0 := H 0 h0
 simp only [Nat.add_zero] at hc0
 have hbeg : begF l = begGo (l.drop 1) ((behindF (b2 l[0])).2.2.toNat - 1) 1 (behindF (b2 l[0])).1 (behindF (b2 l[0])).2.1 := by
  cases l with
  | nil => simp at h0
  | cons x r => rfl
 obtain ⟨⟨hs1, hs2⟩, hl1, hl2, hh1, hh2⟩ := behind_range (b2 l[0])
 have cb := fun w => behind_any (b2 l[0]) w
 obtain ⟨lo, hi, sz, hB⟩ : ∃ lo hi sz, behindF (b2 l[0]) = (lo, hi, sz) := ⟨_, _, _, rfl⟩
 rw [hB] at hbeg hs1 hs2 hl1 hl2 hh1 hh2 cb
 simp only at hbeg hs1 hs2 hl1 hl2 hh1 hh2 cb
 clear hB
 obtain ⟨n, rfl⟩ := Int.eq_ofNat_of_zero_le (show 0 <= sz by omega)
 simp only [Int.toNat_natCast] at hbeg hs1 hs2 cb
 have hs1' : 1 <= n := by omega
 have hs2' : n <= 4 := by omega
 obtain ⟨x0, hx0⟩ := ex_ (b2 l[0])
 rw [<- hx0] at hc0 cb
 clear hx0
 obtain ⟨L, hL⟩ := ex_ (l.length)
 rw [<- hL] at hm h0 ⊢
 have HLL := h_ hL; clear hL
 obtain ⟨r, hr⟩ := ex_ (begF l)
 rw [<- hr] at hbeg ⊢
 have HR := h_ hbeg; clear hbeg hr
 have HH := h_ H; clear H h
 have Hcl := h_ cb; clear cb
 go_enter Tryz.func76, Tryz.ntmps76
 go_wp2_with (go_at_call 113; refine (Hcl.out _).mono ?_; rintro e w' ⟨rfl, rfl⟩)
 go_loop [3, 4, 6] (fun lo' hi' i => ∃ (k : Nat) (l1 h1 : Int), 1 <= k ∧ k <= n ∧ k <= L ∧ i = .int .i64 k ∧ lo' = .int .u8 l1 ∧ hi' = .int .u8 h1 ∧ (0 <= l1 ∧ l1 < 256) ∧ (0 <= h1 ∧ h1 < 256) ∧ begGo (l.drop k) (n - k) k l1 h1 = r) (fun _ _ i => n - (intOf i).toNat)
 case atStart => exact ⟨1, lo, hi, by omega, by omega, by omega, rfl, rfl, rfl, ⟨hl1, hl2⟩, ⟨hh1, hh2⟩, HR.out.symm⟩
 case round =>
  obtain ⟨k, l1, h1, hk1, hk, hkL, rfl, rfl, rfl, ⟨hl1, hl2⟩, ⟨hh1, hh2⟩, hg⟩ := hrel
  have HG := h_ hg; clear hg
  by_cases hkn : k < n
  ·by_cases hkl : k < L
   ·have hx : k < l.length := by have := HLL.out; omega
    have hcell := HH.out k hx
    obtain ⟨y, hy⟩ := ex_ (b2 l[k])
    rw [<- hy] at hcell
    obtain ⟨hy1, hy2⟩ : 0 <= y ∧ y < 256 := by rw [hy]; exact b2_lt _
    have HY := h_ hy; clear hy
    by_cases hb1 : y < l1
    ·have hfin := begGo_bad (m := n - k - 1) (lo := l1) (hi := h1) hx (by rw [<- HY.out]; omega)
     rw [show n - k - 1 + 1 = n - k by omega, HG.out] at hfin
     have HF := h_ hfin; clear hfin
     go_wp2
     go_ret
     exact ⟨ret1_int (by rw [HF.out]), rfl⟩
    ·by_cases hb2' : h1 < y
     ·have hfin := begGo_bad (m := n - k - 1) (lo := l1) (hi := h1) hx (by rw [<- HY.out]; omega)
      rw [show n - k - 1 + 1 = n - k by omega, HG.out] at hfin
      have HF := h_ hfin; clear hfin
      go_wp2
      go_ret
      exact ⟨ret1_int (by rw [HF.out]), rfl⟩
     ·have hfin := begGo_ok (m := n - k - 1) (lo := l1) (hi := h1) hx (by rw [<- HY.out]; omega)
      rw [show n - k - 1 + 1 = n - k by omega, HG.out, show n - k - 1 = n - (k + 1) by omega] at hfin
      have HF := h_ hfin; clear hfin
      go_wp2
      go_round
      case rel => exact ⟨k + 1, _, _, by omega, by omega, by omega, by go_num, rfl, rfl, by omega, by omega, HF.out.symm⟩
      case measure => simp [intOf]; omega
   ·have hfin := begGo_end (l := l) (k := k) (m := n - k - 1) (lo := l1) (hi := h1) (by have := HLL.out; omega)
    rw [show n - k - 1 + 1 = n - k by omega, HG.out] at hfin
    have HF := h_ hfin; clear hfin
    go_wp2
    go_ret
    exact ⟨ret1_int (by rw [HF.out]), rfl⟩
  ·obtain rfl : k = n := by omega
   have hfin : r = k := by
    have := HG.out
    rw [<- this]
    simp [begGo]
   have HF := h_ hfin; clear hfin
   go_wp2
   go_ret
   exact ⟨ret1_int (by rw [HF.out]), rfl⟩
end Go.Proofs.YtpckaimpjccjhaaGreatDoor
