/- AthW PrsJ AthX PrsM: joined. -/
import Derived.Test.YtpckaimpjccjhaaGreatDoorGUrlB
import Derived.Test.YtpckaimpjccjhaaGreatDoorGNumT
import Derived.Test.YtpckaimpjccjhaaGreatDoorGHlwA
import Derived.Test.YtpckaimpjccjhaaGreatDoorGSixF
/- Who is asked, and where, as a text: the law's own write. -/
namespace Go.Proofs.YtpckaimpjccjhaaGreatDoor
open Go.RowKit
set_option maxRecDepth 10000

theorem ath_cells (A : Ath) (h8 : A.host.six.length = 8) : (aCells A)[0]? = some (S A.user) ∧ (aCells A)[1]? = some (S A.pass) ∧ (aCells A)[13]? = some (.bool A.hasPort) ∧ (aCells A)[14]? = some (.int .i64 A.port) ∧ (aCells A)[2]? = some (.int .i64 A.host.kind) := by
 obtain ⟨u, p, ⟨k, nm, f, six⟩, hp, po⟩ := A
 simp only at h8
 obtain ⟨b1, b2, b3, b4, b5, b6, b7, b8, rfl⟩ := eight h8
 exact ⟨rfl, rfl, rfl, rfl, rfl⟩
theorem ath_hst (a : Ath) : ∀ j v, (hstCells a.host)[j]? = some v → (aCells a)[2 + j]? = some v := by
 intro j v h
 have hj := (List.getElem?_eq_some_iff.1 h).1
 rw [List.getElem?_toArray]
 unfold athCells
 rw [List.append_assoc, List.getElem?_append_right (by simp), List.getElem?_append_left (by simp; omega)]
 simpa using h
end Go.Proofs.YtpckaimpjccjhaaGreatDoor

/- Plain laws of layer 17: what was read is read again as it is written. -/
namespace Go.Proofs.YtpckaimpjccjhaaGreatDoor
open Go.RowKit
set_option maxRecDepth 10000

/-! bytes that part nothing -/
def fineB (y : UInt8) : Prop := 32 < b2 y ∧ y ≠ 35 ∧ y ≠ 63
def plainB (y : UInt8) : Prop := fineB y ∧ y ≠ 47 ∧ y ≠ 92
instance (y : UInt8) : Decidable (fineB y) := by unfold fineB; infer_instance
instance (y : UInt8) : Decidable (plainB y) := by unfold plainB; infer_instance
theorem host_kind {s : Bytes} {sp : Bool} {h : Hst} (e : hostP s sp = some h) : h.kind ≠ 0 := by
 cases hkind e with
 | six a h8 ha hs => simp
 | name n e hs hd hn hb he => simp
 | four n e hs h => simp
 | empty e h => simp
 | opaq e hs h hb => simp
theorem hostsp_ne {s : Bytes} {h : Hst} (e : hostP s true = some h) : h.kind ≠ 1 := by
 intro hk
 have key : ∀ sp : Bool, HKind s sp h → sp = false := by
  intro sp hK
  cases hK with
  | six a h8 ha hs => simp at hk
  | name n e hs hd hn hb he => simp at hk
  | four n e hs h => simp at hk
  | empty _ _ => assumption
  | opaq e hs h hb => simp at hk
 cases key true (hkind e)
theorem url_eq {a b : Url} (h1 : a.sch = b.sch) (h2 : a.usr = b.usr) (h3 : a.pas = b.pas) (h4 : a.host = b.host) (h5 : a.hasPort = b.hasPort) (h6 : a.port = b.port) (h7 : a.opq = b.opq) (h8 : a.flat = b.flat) (h9 : a.path = b.path) (h10 : a.hasQ = b.hasQ) (h11 : a.q = b.q) (h12 : a.hasF = b.hasF) (h13 : a.f = b.f) : a = b := by
 cases a; cases b; simp_all
end Go.Proofs.YtpckaimpjccjhaaGreatDoor

/- Who is asked, written and read again: lengths and parts (plain). -/
namespace Go.Proofs.YtpckaimpjccjhaaGreatDoor
open Go.RowKit
set_option maxRecDepth 10000

theorem st_ulen {l s u p : Bytes} (h : stF l = some (s, u, p)) : u.length ≤ 3 * l.length ∧ p.length ≤ 3 * l.length := by
 unfold stF at h
 cases ha : atF l with
 | none =>
  rw [ha] at h
  injection h with h
  injection h with h1 h2
  injection h2 with h2 h3
  rw [← h2, ← h3]
  simp
 | some v =>
  obtain ⟨who, rest⟩ := v
  rw [ha] at h
  dsimp only at h
  split at h
  ·cases h
  ·injection h with h
   injection h with h1 h2
   injection h2 with h2 h3
   have hw : who.length ≤ l.length := by
    rw [(at_is ha).1]
    simp
   have hc := congrArg List.length (cut1_is 58 who)
   have hq : (cut1 58 who).2.2 = false → (cut1 58 who).2.1 = [] := cut1_flag 58 _
   rw [List.length_append] at hc
   have k1 : (cutF who).1.length ≤ who.length ∧ (cutF who).2.length ≤ who.length := by
    rw [cutF1]
    dsimp only
    by_cases hf : (cut1 58 who).2.2 = true
    ·rw [if_pos hf, List.length_cons] at hc
     omega
    ·rw [hq (by simpa using hf)]
     simp only [List.length_nil]
     omega
   have k2 := pcB_len 5 (cutF who).1
   have k3 := pcB_len 5 (cutF who).2
   rw [← h2, ← h3]
   omega
/-- what was read of a text: how long it may be -/
theorem auth_len {sch s : Bytes} {a : Ath} (h : authF sch s = some a) : a.user.length ≤ 3 * s.length ∧ a.pass.length ≤ 3 * s.length ∧ ∃ n, n.length ≤ s.length ∧ hostP n (spF sch) = some a.host := by
 rw [auth_st] at h
 cases hs : stF s with
 | none => rw [hs] at h; cases h
 | some v =>
  obtain ⟨s2, u, p⟩ := v
  rw [hs] at h
  dsimp only at h
  rw [rest_nq] at h
  have hl := st_len hs
  have hu := st_ulen hs
  cases hn : nqF s2 with
  | none => rw [hn] at h; cases h
  | some v =>
   obtain ⟨n, q⟩ := v
   rw [hn] at h
   dsimp only at h
   have hnl := nq_len hn
   unfold finF at h
   cases hh : hostP n (spF sch) with
   | none => rw [hh] at h; cases h
   | some g =>
    rw [hh] at h
    dsimp only at h
    cases hq : apF sch q with
    | none => rw [hq] at h; cases h
    | some v =>
     obtain ⟨k, b⟩ := v
     rw [hq] at h
     injection h with h
     subst h
     exact ⟨hu.1, hu.2, n, by omega, hh⟩
end Go.Proofs.YtpckaimpjccjhaaGreatDoor

/- Plain laws of layer 17: a fragment more, no text at all, a query more (ParseParts). -/
namespace Go.Proofs.YtpckaimpjccjhaaGreatDoor
open Go.RowKit
set_option maxRecDepth 10000

/-- a base with another query, if there is one, and another fragment -/
def withQF (b : Url) (hq : Bool) (q : Bytes) (hf : Bool) (f : Bytes) : Url :=
  { b with hasQ := if hq = true then true else b.hasQ, q := if hq = true then pcB (setQ b.sch) q else b.q, hasF := hf, f := pcB 1 f }
theorem join_qf {b : Url} (g : Good b) (ho : b.opq = false) (hq : Bool) (q : Bytes) (hf : Bool) (f : Bytes) : joinU b ⟨false, [], [], hq, q, hf, f⟩ = some (withQF b hq q hf f) := by
  unfold joinU
  by_cases hs : b.sch = fileB
  · rw [if_pos (.inr ⟨rfl, ho, hs⟩)]
    obtain ⟨hF, _⟩ := good_fileOk g hs
    have e : fileU b ⟨false, [], [], hq, q, hf, f⟩ = some (takeP { startF fileB ⟨false, [], [], hq, q, hf, f⟩ with host := b.host } b) := by
      unfold fileU
      simp only [hs, decide_true, if_true]
      rfl
    rw [e]
    congr 1
    unfold takeP withQF
    cases hq with
    | true =>
      rw [if_pos rfl]
      refine url_eq hs.symm hF.h5.u.symm hF.h5.p.symm rfl hF.h5.h.symm hF.h5.n.symm ho.symm (g.fl ho).symm rfl rfl ?_ rfl rfl
      show pcB (if spF fileB = true then 3 else 2) q = pcB (setQ b.sch) q
      rw [hs]
      rfl
    | false =>
      rw [if_neg (show ¬ (false = true) by simp)]
      exact url_eq hs.symm hF.h5.u.symm hF.h5.p.symm rfl hF.h5.h.symm hF.h5.n.symm ho.symm (g.fl ho).symm rfl rfl rfl rfl rfl
  · rw [if_neg (by rintro (h | h); · cases h.1
                   · exact hs h.2.2), if_neg (by rintro ⟨⟨h, _⟩, _⟩; cases h), if_neg (by rintro ⟨h, _⟩; cases h), if_neg (by rw [ho]; simp)]
    have e : relU b ⟨false, [], [], hq, q, hf, f⟩ = some (takeP (takeA (startF b.sch ⟨false, [], [], hq, q, hf, f⟩) b) b) := rfl
    rw [e]
    congr 1
    unfold takeP withQF
    cases hq with
    | true =>
      rw [if_pos rfl]
      exact url_eq rfl rfl rfl rfl rfl rfl ho.symm (g.fl ho).symm rfl rfl rfl rfl rfl
    | false =>
      rw [if_neg (show ¬ (false = true) by simp)]
      exact url_eq rfl rfl rfl rfl rfl rfl ho.symm (g.fl ho).symm rfl rfl rfl rfl rfl
theorem flat_qf {b : Url} (ho : b.opq = true) (hq : Bool) (q : Bytes) (hf : Bool) (f : Bytes) : joinU b ⟨false, [], [], hq, q, hf, f⟩ = if hf = true ∧ hq = false then some { b with hasF := true, f := pcB 1 f } else none := by
  unfold joinU
  rw [if_neg (by rintro (h | h); · cases h.1
                 · rw [ho] at h; cases h.2.1), if_neg (by rintro ⟨⟨h, _⟩, _⟩; cases h), if_neg (by rintro ⟨h, _⟩; cases h), if_pos ho]
  unfold flatU
  cases hf <;> cases hq <;> simp
theorem clean_frag (s : Bytes) : cleanF (35 :: s ++ [97]) = 35 :: (tightF s ++ [97]) := by
  rw [clean_is]
  have e : tightF (35 :: s ++ [97]) = 35 :: (tightF s ++ [97]) := by
    show List.filter notBr (35 :: (s ++ [97])) = _
    rw [List.filter_cons_of_pos (by decide), List.filter_append]
    rfl
  rw [e]
  refine trim_same (fun x hx => ?_) (fun x hx => ?_)
  · injection hx with hx
    rw [← hx]; decide
  · have h2 : (35 :: (tightF s ++ [97])).getLast? = some 97 := by
      rw [← List.cons_append, List.getLast?_append]; rfl
    rw [h2] at hx
    injection hx with hx
    rw [← hx]; decide
/-- a fragment more -/
theorem read_frag {b : Url} (g : Good b) (s : Bytes) : readJ b (35 :: s ++ [97]) = some { b with hasF := true, f := pcB 1 (tightF s ++ [97]) } := by
  unfold readJ
  rw [clean_frag]
  have e : splitF (35 :: (tightF s ++ [97])) = ⟨false, [], [], false, [], true, tightF s ++ [97]⟩ := by
    unfold splitF
    have k : cut1 35 (35 :: (tightF s ++ [97])) = ([], tightF s ++ [97], true) := by rw [cut1, if_pos rfl]
    rw [k]
    rfl
  rw [e]
  cases ho : b.opq with
  | true =>
    rw [flat_qf ho, if_pos ⟨rfl, rfl⟩]
    exact congrArg some (url_eq rfl rfl rfl rfl rfl rfl ho rfl rfl rfl rfl rfl rfl)
  | false =>
    rw [join_qf g ho]
    exact congrArg some (url_eq rfl rfl rfl rfl rfl rfl ho rfl rfl rfl rfl rfl rfl)
/-- no text at all -/
theorem read_none {b : Url} (g : Good b) : readJ b [] = if b.opq = true then none else some { b with hasF := false, f := [] } := by
  have e : readJ b [] = joinU b ⟨false, [], [], false, [], false, []⟩ := rfl
  rw [e]
  cases ho : b.opq with
  | true => rw [flat_qf ho, if_neg (by simp), if_pos rfl]
  | false =>
    rw [join_qf g ho, if_neg (by simp)]
    exact congrArg some (url_eq rfl rfl rfl rfl rfl rfl ho rfl rfl rfl rfl rfl rfl)
/-- a query more -/
theorem read_query {b : Url} (g : Good b) (ho : b.opq = false) : readJ b [63, 97, 35] = some { b with hasQ := true, q := [97], hasF := true, f := [] } := by
  have e : readJ b [63, 97, 35] = joinU b ⟨false, [], [], true, [97], true, []⟩ := rfl
  rw [e, join_qf g ho]
  congr 1
  unfold withQF
  have h : pcB (setQ b.sch) [97] = [97] := by
    unfold setQ
    split <;> decide +kernel
  rw [if_pos rfl, if_pos rfl, h]
  rfl
end Go.Proofs.YtpckaimpjccjhaaGreatDoor
