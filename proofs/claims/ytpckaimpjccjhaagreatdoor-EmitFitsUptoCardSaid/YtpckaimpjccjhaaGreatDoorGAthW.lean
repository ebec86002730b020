/- AthW PrsJ AthX SrcB: joined. -/
import Derived.Test.YtpckaimpjccjhaaGreatDoorGHlwA
import Derived.Test.YtpckaimpjccjhaaGreatDoorGNumT
import Derived.Test.YtpckaimpjccjhaaGreatDoorGSixF
import Derived.Test.YtpckaimpjccjhaaGreatDoorGWlkA
set_option maxHeartbeats 40000000
namespace Go.Proofs.YtpckaimpjccjhaaGreatDoor
open Go.RowKit
set_option maxRecDepth 10000
theorem ath_cells (A : Ath) (h8 : A.host.six.length = 8) : (aCells A)[0]? = some (S A.user) ∧ (aCells A)[1]? = some (S A.pass) ∧ (aCells A)[13]? = some (.bool A.hasPort) ∧ (aCells A)[14]? = some (.int .i64 A.port) ∧ (aCells A)[2]? = some (.int .i64 A.host.kind) := by
 obtain ⟨u, p, ⟨k, nm, f, six⟩, hp, po⟩ := A
 simp only at h8
 obtain ⟨b1, b2, b3, b4, b5, b6, b7, b8, rfl⟩ := eight h8
 exact ⟨rfl, rfl, rfl, rfl, rfl⟩
theorem ath_hst (a : Ath) : ∀ j v, (hstCells a.host)[j]? = some v -> (aCells a)[2 + j]? = some v := by
 intro j v h
 have hj := (List.getElem?_eq_some_iff.1 h).1
 rw [List.getElem?_toArray]
 unfold athCells
 rw [List.append_assoc, List.getElem?_append_right (by simp), List.getElem?_append_left (by simp; omega)]
 simpa using h

def fineB (y : UInt8) : Prop := 32 < b2 y ∧ y ≠ 35 ∧ y ≠ 63
def plainB (y : UInt8) : Prop := fineB y ∧ y ≠ 47 ∧ y ≠ 92
instance (y : UInt8) : Decidable (fineB y) := by unfold fineB; infer_instance
instance (y : UInt8) : Decidable (plainB y) := by unfold plainB; infer_instance

theorem st_ulen {l s u p : Bytes} (h : stF l = some (s, u, p)) : u.length <= 3 * l.length ∧ p.length <= 3 * l.length := by
 unfold stF at h
 cases ha : atF l with
 | none =>
  rw [ha] at h
  injection h with h
  injection h with h1 h2
  injection h2 with h2 h3
  rw [<- h2, <- h3]
  simp
 | some v =>
  obtain ⟨who, rest⟩ := v
  rw [ha] at h
  dsimp only at h
  split at h
  ·cases h
  ·injection h with h
   injection h with h1 h2
   injection h2 with h2 h3
   have hw : who.length <= l.length := by
    rw [(at_is ha).1]
    simp
   have hc := congrArg List.length (cut1_is 58 who)
   have hq : (cut1 58 who).2.2 = false -> (cut1 58 who).2.1 = [] := cut1_flag 58 _
   rw [List.length_append] at hc
   have k1 : (cutF who).1.length <= who.length ∧ (cutF who).2.length <= who.length := by
    rw [cutF1]
    dsimp only
    by_cases hf : (cut1 58 who).2.2 = true
    ·rw [if_pos hf, List.length_cons] at hc
     omega
    ·rw [hq (by simpa using hf)]
     simp only [List.length_nil]
     omega
   have k2 := pcB_len 5 (cutF who).1
   have k3 := pcB_len 5 (cutF who).2
   rw [<- h2, <- h3]
   omega
theorem auth_len {sch s : Bytes} {a : Ath} (h : authF sch s = some a) : a.user.length <= 3 * s.length ∧ a.pass.length <= 3 * s.length ∧ ∃ n, n.length <= s.length ∧ hostP n (spF sch) = some a.host := by
 rw [auth_st] at h
 cases hs : stF s with
 | none => rw [hs] at h; cases h
 | some v =>
  obtain ⟨s2, u, p⟩ := v
  rw [hs] at h
  dsimp only at h
  rw [rest_nq] at h
  have hl := st_len hs
  have hu := st_ulen hs
  cases hn : nqF s2 with
  | none => rw [hn] at h; cases h
  | some v =>
   obtain ⟨n, q⟩ := v
   rw [hn] at h
   dsimp only at h
   have hnl := nq_len hn
   unfold finF at h
   cases hh : hostP n (spF sch) with
   | none => rw [hh] at h; cases h
   | some g =>
    rw [hh] at h
    dsimp only at h
    cases hq : apF sch q with
    | none => rw [hq] at h; cases h
    | some v =>
     obtain ⟨k, b⟩ := v
     rw [hq] at h
     injection h with h
     subst h
     exact ⟨hu.1, hu.2, n, by omega, hh⟩

structure Fit (l : Bytes) : Prop where
 b : ∀ x ∈ l, blE x = false
 h : ∃ x r, l = x :: r ∧ x ≠ 44
 e : ∃ q y, l = q ++ [y] ∧ y ≠ 44
theorem b2_44 (x : UInt8) : b2 x = 44 ↔ x = 44 := by
 constructor
 ·intro h
  have : x.toNat = 44 := by unfold b2 at h; omega
  exact UInt8.toNat_inj.mp this
 ·rintro rfl; rfl
theorem fits_iff (l : Bytes) : fitsF l = true ↔ Fit l := by
 unfold fitsF
 cases l with
 | nil => exact ⟨fun h => by simp at h, fun h => by obtain ⟨x, r, e, _⟩ := h.h; cases e⟩
 | cons x r =>
  have hq : ∃ q y, x :: r = q ++ [y] := ⟨(x :: r).dropLast, (x :: r).getLast (by simp), (List.dropLast_concat_getLast (by simp)).symm⟩
  obtain ⟨q, y, hqy⟩ := hq
  have hs : Lib.hasSuffix (x :: r) [44] = decide (b2 y = 44) := by rw [hqy]; exact suf1 y q
  rw [hs, pre1]
  constructor
  ·intro h
   simp only [Bool.and_eq_true, Bool.not_eq_true', decide_eq_false_iff_not, List.all_eq_true, b2_44] at h
   exact ⟨fun z hz => h.1.1.1 z hz, ⟨x, r, rfl, h.1.2⟩, ⟨q, y, hqy, h.2⟩⟩
  ·intro h
   obtain ⟨x', r', e, hx⟩ := h.h
   obtain ⟨q', y', e', hy⟩ := h.e
   cases e
   rw [hqy] at e'
   obtain ⟨_, e2⟩ := List.append_inj' e' rfl
   cases e2
   simp only [Bool.and_eq_true, Bool.not_eq_true', decide_eq_false_iff_not, List.all_eq_true, b2_44]
   exact ⟨⟨⟨fun z hz => h.b z hz, rfl⟩, hx⟩, hy⟩
theorem tw_nb (s : Bytes) : ∀ x ∈ s.takeWhile nblF, blE x = false := by
 induction s with
 | nil => intro x h; cases h
 | cons c r ih =>
  intro x h
  cases hc : nblF c with
  | true =>
   rw [List.takeWhile_cons_of_pos hc] at h
   rcases List.mem_cons.mp h with rfl | h
   ·unfold nblF at hc; simpa using hc
   ·exact ih x h
  | false => rw [List.takeWhile_cons_of_neg (by rw [hc]; simp)] at h; cases h
theorem trim_pre (u : Bytes) : ∃ t, u = trimC u ++ t ∧ ∀ x ∈ t, x = 44 := by
 refine ⟨(u.reverse.takeWhile fun x => decide (x = 44)).reverse, ?_, ?_⟩
 ·unfold trimC
  rw [<- List.reverse_append, List.takeWhile_append_dropWhile, List.reverse_reverse]
 ·intro x hx
  have := tw_p _ x (List.mem_reverse.mp hx)
  simpa using this
theorem trim_end (u : Bytes) {q : Bytes} {y : UInt8} (h : trimC u = q ++ [y]) : y ≠ 44 := by
 unfold trimC at h
 have h2 : u.reverse.dropWhile (fun x => decide (x = 44)) = y :: q.reverse := by
  have := congrArg List.reverse h
  rw [List.reverse_reverse, List.reverse_append] at this
  exact this
 obtain ⟨x, r, e, hx⟩ := dw_head (p := fun x => decide (x = 44)) (s := u.reverse) (by rw [h2]; simp)
 rw [h2] at e
 cases e
 simpa using hx
theorem fit_stp {t : Bytes} {x : UInt8} {r : Bytes} (e : t = x :: r) (hx : cblF x = false) : Fit (stpF t).url := by
 have h44 : x ≠ 44 := by rintro rfl; exact absurd hx (by decide)
 have ht : t.takeWhile nblF = x :: r.takeWhile nblF := by rw [e, List.takeWhile_cons_of_pos (cb_nb hx)]
 have hb := tw_nb t
 unfold stpF
 split
 ·next hc =>
  show Fit (trimC (t.takeWhile nblF))
  obtain ⟨z, hz, hz44⟩ := trim_pre (t.takeWhile nblF)
  cases hq : trimC (t.takeWhile nblF) with
  | nil =>
   rw [hq, ht] at hz
   exact absurd (hz44 x (by rw [<- List.nil_append z, <- hz]; simp)) h44
  | cons x' r' =>
   rw [hq, ht] at hz
   have ex : x = x' := by injection hz
   refine ⟨fun y hy => hb y ?_, ⟨x', r', rfl, ex ▸ h44⟩, ?_⟩
   ·obtain ⟨z2, hz2, _⟩ := trim_pre (t.takeWhile nblF)
    rw [hz2, hq]
    exact List.mem_append_left _ hy
   ·refine ⟨(x' :: r').dropLast, (x' :: r').getLast (by simp), (List.dropLast_concat_getLast (by simp)).symm, ?_⟩
    exact trim_end (t.takeWhile nblF) (hq.trans (List.dropLast_concat_getLast (by simp)).symm)
 ·next hc =>
  show Fit (t.takeWhile nblF)
  refine ⟨hb, ⟨x, r.takeWhile nblF, ht, h44⟩, ?_⟩
  rw [ht] at hc ⊢
  refine ⟨(x :: r.takeWhile nblF).dropLast, (x :: r.takeWhile nblF).getLast (by simp), (List.dropLast_concat_getLast (by simp)).symm, fun e44 => hc ?_⟩
  unfold commaE
  rw [List.getLast?_eq_some_getLast (by simp), e44]
  rfl
theorem src_fit : ∀ (k : Nat) (s : Bytes), ∀ c ∈ srcGo k s, Fit c.url
 | 0, _, c, h => by cases h
 | k + 1, s, c, h => by
  unfold srcGo at h
  split at h
  ·cases h
  ·next hz =>
   obtain ⟨x, r, e, hx⟩ := dw_head hz
   unfold addC at h
   split at h
   ·exact src_fit k _ c h
   ·rcases List.mem_cons.mp h with rfl | h
    ·exact fit_stp e hx
    ·exact src_fit k _ c h
structure WOk (w : Bytes) (n : Int) : Prop where
 d : ∃ d, w = d ++ [119] ∧ wholeF d = some n ∧ ∀ x ∈ d, isD x = true
 n : 1 <= n
theorem isD_word : ∀ k : Fin 256, isD (UInt8.ofNat k.val) = true -> UInt8.ofNat k.val ≠ 40 ∧ cblF (UInt8.ofNat k.val) = false := by decide +kernel
theorem wordN_app : ∀ {w : Bytes} (t : Bytes), (∀ x ∈ w, x ≠ 40 ∧ cblF x = false) -> wordN false (w ++ t) = w.length + wordN false t
 | [], t, _ => by rw [List.nil_append, List.length_nil, Nat.zero_add]
 | x :: w, t, h => by
  rw [List.cons_append, wordN, if_neg (h x (by simp)).1, if_neg (by rw [(h x (by simp)).2]; simp), wordN_app (w := w) t fun y hy => h y (by simp [hy]), List.length_cons]
  omega
theorem WOk.a {w : Bytes} {n : Int} (h : WOk w n) : ∀ x ∈ w, x ≠ 40 ∧ cblF x = false := by
 obtain ⟨d, e, _, hd⟩ := h.d
 intro x hx
 rw [e, List.mem_append] at hx
 rcases hx with hx | hx
 ·exact byte_all (P := fun x => isD x = true -> x ≠ 40 ∧ cblF x = false) isD_word x (hd x hx)
 ·simp only [List.mem_singleton] at hx
  subst hx
  exact ⟨by decide, by decide⟩
theorem WOk.take {w : Bytes} {n : Int} (h : WOk w n) : descF [w] = some { C0 with words := [w], hw := true, w := n } := by
 obtain ⟨d, e, hd, _⟩ := h.d
 have h1 : takeF C0 w = some { C0 with hw := true, w := n } := by
  unfold takeF
  rw [e, List.getLast?_concat]
  show (if (119 : UInt8) = 119 then _ else _) = _
  rw [if_pos rfl, List.dropLast_concat, hd]
  dsimp only
  rw [if_neg]
  rintro (h2 | h2 | h2)
  ·have := h.n; omega
  ·cases h2
  ·cases h2
 unfold descF
 show (match (match takeF C0 w with | none => none | some c' => takeL c' []) with | none => none | some c => _) = _
 rw [h1]
 rfl
theorem fit_src {s w : Bytes} {n : Int} (h : Fit s) (hw : WOk w n) : srcF (s ++ (32 :: (w ++ (44 :: 32 :: s)))) = [{ C0 with url := s, words := [w], hw := true, w := n }, { C0 with url := s }] := by
 obtain ⟨x, r, e, hx⟩ := h.h
 have hcb : cblF x = false := by
  unfold cblF
  rw [h.b x (by rw [e]; simp), decide_eq_false hx]; rfl
 have hnb : ∀ y ∈ s, nblF y = true := fun y hy => by unfold nblF; rw [h.b y hy]; rfl
 have hc : commaE s = false := by
  obtain ⟨q, y, e2, hy⟩ := h.e
  unfold commaE
  rw [e2, List.getLast?_concat]
  exact decide_eq_false fun h3 => hy (by simpa using h3)
 have d1 : ∀ t : Bytes, (s ++ t).dropWhile cblF = s ++ t := fun t => by rw [e, List.cons_append]; exact dw_neg hcb
 have two : srcF (32 :: s) = [{ C0 with url := s }] := by
  have d2 : (32 :: s).dropWhile cblF = s := by
   rw [List.dropWhile_cons_of_pos (by decide)]
   have := d1 []
   rwa [List.append_nil] at this
  have t2 : s.takeWhile nblF = s := by have := tw_all (p := nblF) (d := s) [] hnb; simpa using this
  have t3 : s.dropWhile nblF = [] := by have := dw_all (p := nblF) (d := s) [] hnb; simpa using this
  rw [src_eq, d2, if_neg (by rw [e]; simp)]
  have hst : stpF s = ⟨s, [], []⟩ := by
   unfold stpF
   rw [t2, t3, if_neg (by rw [hc]; simp)]
   rfl
  rw [hst]
  rfl
 have t2 : (s ++ (32 :: (w ++ (44 :: 32 :: s)))).takeWhile nblF = s := by
  rw [tw_all (p := nblF) _ hnb]
  show s ++ _ = s
  rw [List.takeWhile_cons_of_neg (by decide), List.append_nil]
 have t3 : (s ++ (32 :: (w ++ (44 :: 32 :: s)))).dropWhile nblF = 32 :: (w ++ (44 :: 32 :: s)) := by
  rw [dw_all (p := nblF) _ hnb]
  exact dw_neg (by decide)
 obtain ⟨d, ew, _, hd⟩ := hw.d
 have hwl : 0 < w.length := by rw [ew, List.length_append]; simp
 have d4 : (32 :: (w ++ (44 :: 32 :: s))).dropWhile blE = w ++ (44 :: 32 :: s) := by
  rw [List.dropWhile_cons_of_pos (by decide)]
  cases hww : w with
  | nil => rw [hww] at hwl; simp at hwl
  | cons y z =>
   have := (hw.a y (by rw [hww]; simp)).2
   refine dw_neg ?_
   unfold cblF at this
   cases hy : blE y with
   | true => rw [hy, Bool.or_true] at this; cases this
   | false => rfl
 have n4 : wordN false (w ++ (44 :: 32 :: s)) = w.length := by
  rw [wordN_app _ hw.a]
  show w.length + (if (44 : UInt8) = 40 then _ else if cblF 44 = true then 0 else _) = _
  rw [if_neg (by decide), if_pos (by decide)]; rfl
 have w5 : wdsF (44 :: 32 :: s) = ([], 44 :: 32 :: s) := by
  rw [wds_eq]
  have : (44 :: 32 :: s).dropWhile blE = 44 :: 32 :: s := dw_neg (by decide)
  rw [this, if_pos]
  show (if (44 : UInt8) = 40 then _ else if cblF 44 = true then 0 else _) = _
  rw [if_neg (by decide), if_pos (by decide)]
 have w4 : wdsF (32 :: (w ++ (44 :: 32 :: s))) = ([w], 44 :: 32 :: s) := by
  rw [wds_eq, d4, n4, if_neg (by omega)]
  rw [List.take_left' rfl, List.drop_left' rfl, w5]
 have hst : stpF (s ++ (32 :: (w ++ (44 :: 32 :: s)))) = ⟨s, [w], 32 :: s⟩ := by
  unfold stpF
  rw [t2, t3, if_neg (by rw [hc]; simp), w4]
  rfl
 rw [src_eq, d1, if_neg (by rw [e]; simp), hst]
 show addC ⟨s, [w], 32 :: s⟩ (srcF (32 :: s)) = _
 rw [two]
 unfold addC
 dsimp only
 rw [hw.take]
theorem isD_of {y : UInt8} (h : 48 <= b2 y ∧ b2 y <= 57) : isD y = true := decide_eq_true h
theorem wok_text {n : Int} (h1 : 1 <= n) (h2 : n <= 1000000) : WOk (Lib.itoa n ++ [119]) n := by
 have e : Lib.itoa n = Lib.decDigits n.toNat := by unfold Lib.itoa; rw [if_neg (by omega)]
 refine ⟨⟨Lib.itoa n, rfl, ?_, fun x hx => isD_of (dec_byte n.toNat x (e ▸ hx))⟩, h1⟩
 rw [e]
 unfold wholeF
 have hne : Lib.decDigits n.toNat ≠ [] := by
  intro h0
  have := wh_dec n.toNat (by omega)
  rw [h0] at this
  have h3 : (0 : Int) = (n.toNat : Int) := by injection this
  omega
 rw [if_neg hne, wh_dec _ (by omega)]
 congr 1
 omega
def oneL (l : List Cand) (s w : Bytes) : Bool := match l with
 | [a, b] => decide (a.url = s) && decide (a.words = [w]) && decide (b.url = s) && decide (b.words = [])
 | _ => false
theorem one_fits {s w : Bytes} {n : Int} (hw : WOk w n) : oneL (srcF (s ++ (32 :: (w ++ (44 :: 32 :: s))))) s w = fitsF s := by
 cases hf : fitsF s with
 | true =>
  rw [fit_src ((fits_iff s).mp hf) hw]
  simp [oneL, C0]
 | false =>
  have hall := src_fit (s ++ (32 :: (w ++ (44 :: 32 :: s)))).length (s ++ (32 :: (w ++ (44 :: 32 :: s))))
  change ∀ c ∈ srcF _, Fit c.url at hall
  generalize srcF (s ++ (32 :: (w ++ (44 :: 32 :: s)))) = l at hall
  unfold oneL
  split
  ·next a b =>
   have : a.url ≠ s := fun e => by
    have := (fits_iff s).mpr (e ▸ hall a (by simp))
    rw [hf] at this; cases this
   rw [decide_eq_false this]; rfl
  ·rfl
end Go.Proofs.YtpckaimpjccjhaaGreatDoor
