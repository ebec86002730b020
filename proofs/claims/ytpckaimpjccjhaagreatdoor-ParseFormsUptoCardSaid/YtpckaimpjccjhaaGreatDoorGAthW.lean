/- AthW PrsJ AthX PrsN: joined. -/
import Derived.Test.YtpckaimpjccjhaaGreatDoorGUrlB
import Derived.Test.YtpckaimpjccjhaaGreatDoorGNumT
import Derived.Test.YtpckaimpjccjhaaGreatDoorGHlwA
import Derived.Test.YtpckaimpjccjhaaGreatDoorGSixF
set_option maxHeartbeats 40000000
namespace Go.Proofs.YtpckaimpjccjhaaGreatDoor
open Go.RowKit
set_option maxRecDepth 10000
theorem ath_cells (A : Ath) (h8 : A.host.six.length = 8) : (aCells A)[0]? = some (S A.user) ∧ (aCells A)[1]? = some (S A.pass) ∧ (aCells A)[13]? = some (.bool A.hasPort) ∧ (aCells A)[14]? = some (.int .i64 A.port) ∧ (aCells A)[2]? = some (.int .i64 A.host.kind) := by
 obtain ⟨u, p, ⟨k, nm, f, six⟩, hp, po⟩ := A
 simp only at h8
 obtain ⟨b1, b2, b3, b4, b5, b6, b7, b8, rfl⟩ := eight h8
 exact ⟨rfl, rfl, rfl, rfl, rfl⟩
theorem ath_hst (a : Ath) : ∀ j v, (hstCells a.host)[j]? = some v -> (aCells a)[2 + j]? = some v := by
 intro j v h
 have hj := (List.getElem?_eq_some_iff.1 h).1
 rw [List.getElem?_toArray]
 unfold athCells
 rw [List.append_assoc, List.getElem?_append_right (by simp), List.getElem?_append_left (by simp; omega)]
 simpa using h

def fineB (y : UInt8) : Prop := 32 < b2 y ∧ y ≠ 35 ∧ y ≠ 63
def plainB (y : UInt8) : Prop := fineB y ∧ y ≠ 47 ∧ y ≠ 92
instance (y : UInt8) : Decidable (fineB y) := by unfold fineB; infer_instance
instance (y : UInt8) : Decidable (plainB y) := by unfold plainB; infer_instance
theorem all_bytes {P : UInt8 -> Prop} [DecidablePred P] (h : ∀ k : Fin 256, P (UInt8.ofNat k.val)) (y : UInt8) : P y := by
 have := h ⟨y.toNat, y.toNat_lt⟩
 simpa only [UInt8.ofNat_toNat] using this
theorem url_eq {a b : Url} (h1 : a.sch = b.sch) (h2 : a.usr = b.usr) (h3 : a.pas = b.pas) (h4 : a.host = b.host) (h5 : a.hasPort = b.hasPort) (h6 : a.port = b.port) (h7 : a.opq = b.opq) (h8 : a.flat = b.flat) (h9 : a.path = b.path) (h10 : a.hasQ = b.hasQ) (h11 : a.q = b.q) (h12 : a.hasF = b.hasF) (h13 : a.f = b.f) : a = b := by
 cases a; cases b; simp_all

theorem st_ulen {l s u p : Bytes} (h : stF l = some (s, u, p)) : u.length <= 3 * l.length ∧ p.length <= 3 * l.length := by
 unfold stF at h
 cases ha : atF l with
 | none =>
  rw [ha] at h
  injection h with h
  injection h with h1 h2
  injection h2 with h2 h3
  rw [<- h2, <- h3]
  simp
 | some v =>
  obtain ⟨who, rest⟩ := v
  rw [ha] at h
  dsimp only at h
  split at h
  ·cases h
  ·injection h with h
   injection h with h1 h2
   injection h2 with h2 h3
   have hw : who.length <= l.length := by
    rw [(at_is ha).1]
    simp
   have hc := congrArg List.length (cut1_is 58 who)
   have hq : (cut1 58 who).2.2 = false -> (cut1 58 who).2.1 = [] := cut1_flag 58 _
   rw [List.length_append] at hc
   have k1 : (cutF who).1.length <= who.length ∧ (cutF who).2.length <= who.length := by
    rw [cutF1]
    dsimp only
    by_cases hf : (cut1 58 who).2.2 = true
    ·rw [if_pos hf, List.length_cons] at hc
     omega
    ·rw [hq (by simpa using hf)]
     simp only [List.length_nil]
     omega
   have k2 := pcB_len 5 (cutF who).1
   have k3 := pcB_len 5 (cutF who).2
   rw [<- h2, <- h3]
   omega
theorem auth_len {sch s : Bytes} {a : Ath} (h : authF sch s = some a) : a.user.length <= 3 * s.length ∧ a.pass.length <= 3 * s.length ∧ ∃ n, n.length <= s.length ∧ hostP n (spF sch) = some a.host := by
 rw [auth_st] at h
 cases hs : stF s with
 | none => rw [hs] at h; cases h
 | some v =>
  obtain ⟨s2, u, p⟩ := v
  rw [hs] at h
  dsimp only at h
  rw [rest_nq] at h
  have hl := st_len hs
  have hu := st_ulen hs
  cases hn : nqF s2 with
  | none => rw [hn] at h; cases h
  | some v =>
   obtain ⟨n, q⟩ := v
   rw [hn] at h
   dsimp only at h
   have hnl := nq_len hn
   unfold finF at h
   cases hh : hostP n (spF sch) with
   | none => rw [hh] at h; cases h
   | some g =>
    rw [hh] at h
    dsimp only at h
    cases hq : apF sch q with
    | none => rw [hq] at h; cases h
    | some v =>
     obtain ⟨k, b⟩ := v
     rw [hq] at h
     injection h with h
     subst h
     exact ⟨hu.1, hu.2, n, by omega, hh⟩

def withP (b : Url) (l : List Bytes) : Url := { b with path := l, hasQ := false, q := [], hasF := false, f := [] }
theorem join_rest {b : Url} (g : Good b) (ho : b.opq = false) {r : Bytes} (hr : r ≠ []) (h0 : slN (spF b.sch) r = 0) (hs : startsF r = false) : joinU b ⟨false, [], r, false, [], false, []⟩ = some (withP b (segP b.sch (shortF b.sch b.path) r)) := by
  unfold joinU
  by_cases hf : b.sch = fileB
  · rw [if_pos (.inr ⟨rfl, ho, hf⟩)]
    obtain ⟨hF, _⟩ := good_fileOk g hf
    rw [hf] at h0
    have e : fileU b ⟨false, [], r, false, [], false, []⟩ = some { ({ startF fileB ⟨false, [], r, false, [], false, []⟩ with host := b.host } : Url) with path := segP fileB (shortF fileB b.path) r } := by
      unfold fileU
      dsimp only
      rw [h0]
      simp only [hf, decide_true, if_true, true_and, hr, hs]
      rfl
    rw [e]
    refine congrArg some (url_eq hf.symm hF.h5.u.symm hF.h5.p.symm rfl hF.h5.h.symm hF.h5.n.symm ho.symm (g.fl ho).symm ?_ rfl rfl rfl rfl)
    show segP fileB (shortF fileB b.path) r = segP b.sch (shortF b.sch b.path) r
    rw [hf]
  · rw [if_neg (by rintro (h | h); · cases h.1
                   · exact hf h.2.2), if_neg (by rintro ⟨⟨h, _⟩, _⟩; cases h), if_neg (by rintro ⟨h, _⟩; cases h), if_neg (by rw [ho]; simp)]
    have e : relU b ⟨false, [], r, false, [], false, []⟩ = some { takeA (startF b.sch ⟨false, [], r, false, [], false, []⟩) b with path := segP b.sch (shortF b.sch b.path) r } := by
      unfold relU
      dsimp only
      rw [h0, if_neg (by omega), if_neg (by omega), if_neg (by omega), if_neg hr]
    rw [e]
    exact congrArg some (url_eq rfl rfl rfl rfl rfl rfl ho.symm (g.fl ho).symm rfl rfl rfl rfl rfl)
theorem split_rest {r : Bytes} (h : ∀ y ∈ r, 32 < b2 y ∧ y ≠ 35 ∧ y ≠ 63 ∧ y ≠ 58) : splitF (cleanF r) = ⟨false, [], r, false, [], false, []⟩ := by
  have hc : cleanF r = r := by
    refine clean_same (fun y hy => by have := (h y hy).1; omega) (fun x hx => ?_) (fun x hx => ?_)
    · have := (h x (List.mem_of_head? hx)).1; omega
    · have := (h x (List.mem_of_getLast? hx)).1; omega
  rw [hc]
  have k1 := cut1_none (c := 35) (s := r) (fun hm => (h _ hm).2.1 rfl)
  have k2 := cut1_none (c := 63) (s := r) (fun hm => (h _ hm).2.2.1 rfl)
  have k3 := cut1_none (c := 58) (s := r) (fun hm => (h _ hm).2.2.2 rfl)
  unfold splitF
  simp only [k1, k2, k3]
  rfl
structure Let (s : Bytes) : Prop where
  l : ∀ y ∈ s, 97 <= b2 y ∧ b2 y <= 122
  n : 2 <= s.length
theorem let_k17 : ∀ k : Fin 256, 97 <= b2 (UInt8.ofNat k.val) ∧ b2 (UInt8.ofNat k.val) <= 122 -> (32 < b2 (UInt8.ofNat k.val) ∧ UInt8.ofNat k.val ≠ 35 ∧ UInt8.ofNat k.val ≠ 63 ∧ UInt8.ofNat k.val ≠ 58) ∧ UInt8.ofNat k.val ≠ 47 ∧ UInt8.ofNat k.val ≠ 92 ∧ UInt8.ofNat k.val ≠ 124 ∧ UInt8.ofNat k.val ≠ 46 ∧ UInt8.ofNat k.val ≠ 37 ∧ inF 4 (b2 (UInt8.ofNat k.val)) = false := by decide +kernel
theorem let_is {y : UInt8} (h : 97 <= b2 y ∧ b2 y <= 122) : (32 < b2 y ∧ y ≠ 35 ∧ y ≠ 63 ∧ y ≠ 58) ∧ y ≠ 47 ∧ y ≠ 92 ∧ y ≠ 124 ∧ y ≠ 46 ∧ y ≠ 37 ∧ inF 4 (b2 y) = false :=
  all_bytes (P := fun y => 97 <= b2 y ∧ b2 y <= 122 -> (32 < b2 y ∧ y ≠ 35 ∧ y ≠ 63 ∧ y ≠ 58) ∧ y ≠ 47 ∧ y ≠ 92 ∧ y ≠ 124 ∧ y ≠ 46 ∧ y ≠ 37 ∧ inF 4 (b2 y) = false) let_k17 y h
section
variable {s : Bytes} (h : Let s)
include h
theorem Let.sl (sp : Bool) : ∀ y ∈ s, slP sp y = false := fun y hy => by
  have := let_is (h.l y hy)
  unfold slP
  have e1 : (y == 47) = false := by simpa using this.2.1
  have e2 : (y == 92) = false := by simpa using this.2.2.1
  rw [e1, e2]
  cases sp <;> rfl
theorem Let.two : ∃ a b t, s = a :: b :: t := by
  have := h.n
  match s with
  | a :: b :: t => exact ⟨a, b, t, rfl⟩
  | [a] => simp at this
  | [] => simp at this
theorem Let.beh : behF s = none := by
  obtain ⟨a, b, t, e⟩ := h.two
  have := let_is (h.l a (by rw [e]; simp))
  rw [e]
  exact beh_other this.2.2.2.2.1 this.2.2.2.2.2.1 _
theorem Let.dot : isDot s = false ∧ isDots s = false := by
  unfold isDot isDots
  rw [h.beh]
  exact ⟨rfl, rfl⟩
theorem Let.drive : driveF s = false := by
  obtain ⟨a, b, t, e⟩ := h.two
  have hb := let_is (h.l b (by rw [e]; simp))
  rw [e]
  match t with
  | [] =>
    show (letF (b2 a) && (b == 58 || b == 124)) = false
    have e1 : (b == 58) = false := by simpa using hb.1.2.2.2
    have e2 : (b == 124) = false := by simpa using hb.2.2.2.1
    rw [e1, e2]
    simp
  | _ :: _ => rfl
theorem Let.norm : normF s = false := by
  obtain ⟨a, b, t, e⟩ := h.two
  have hb := let_is (h.l b (by rw [e]; simp))
  rw [e]
  match t with
  | [] =>
    show (letF (b2 a) && b == 58) = false
    have e1 : (b == 58) = false := by simpa using hb.1.2.2.2
    rw [e1]
    simp
  | _ :: _ => rfl
theorem Let.pc : pcB 4 s = s := pc_same fun y hy => (let_is (h.l y hy)).2.2.2.2.2.2
theorem Let.step (sch : Bytes) (out : List Bytes) (last : Bool) : segS sch out s last = out ++ [s] := by
  unfold segS
  rw [if_neg (by rw [h.dot.2]; simp), if_neg (by rw [h.dot.1]; simp), if_neg (by rintro ⟨_, _, h2⟩; rw [h.drive] at h2; cases h2), h.pc]
theorem Let.short (sch : Bytes) (out : List Bytes) : shortF sch (out ++ [s]) = out := by
  match out with
  | [] =>
    show (if sch = [102, 105, 108, 101] ∧ normF s = true then [s] else []) = []
    rw [if_neg (by rintro ⟨_, h2⟩; rw [h.norm] at h2; cases h2)]
  | [x] => rfl
  | x :: y :: r =>
    show ((x :: y :: r) ++ [s]).dropLast = _
    rw [List.dropLast_concat]
theorem Let.ne : s ≠ [] := by
  obtain ⟨a, b, t, e⟩ := h.two
  rw [e]; simp
end
def XY : Bytes := [120, 121]
theorem let_xy : Let XY := ⟨by decide, by decide⟩
def UP : Bytes := [46, 46]
theorem up_step (sch : Bytes) (out : List Bytes) : segS sch out UP false = shortF sch out := by
  unfold segS
  rw [if_pos (by decide)]
  rfl
theorem dot_step (sch : Bytes) (out : List Bytes) : segS sch out [46] false = out ∧ segS sch out [37, 50, 69] false = out := by
  refine ⟨?_, ?_⟩ <;>
  · unfold segS
    rw [if_neg (by decide), if_pos (by decide)]
    rfl
theorem up2_step (sch : Bytes) (out : List Bytes) : segS sch out [46, 37, 50, 101] false = shortF sch out := by
  unfold segS
  rw [if_pos (by decide)]
  rfl
theorem sl_of (sp : Bool) : (∀ y ∈ ([46] : Bytes), slP sp y = false) ∧ (∀ y ∈ UP, slP sp y = false) ∧ (∀ y ∈ ([37, 50, 69] : Bytes), slP sp y = false) ∧ (∀ y ∈ ([46, 37, 50, 101] : Bytes), slP sp y = false) := by cases sp <;> decide
section
variable {b : Url} (g : Good b) (ho : b.opq = false) {s : Bytes} (h : Let s)
include g ho h
theorem dots_1 : readJ b s = some (withP b (shortF b.sch b.path ++ [s])) := by
  unfold readJ
  rw [split_rest (fun y hy => (let_is (h.l y hy)).1)]
  obtain ⟨a, c, t, e⟩ := h.two
  have ha := h.sl (spF b.sch) a (by rw [e]; simp)
  rw [join_rest g ho h.ne (by unfold slN; rw [e, List.takeWhile_cons_of_neg (by rw [ha]; simp)]; rfl)]
  · unfold segP
    rw [segs_piece (h.sl _)]
    show some (withP b (segS b.sch (shortF b.sch b.path) s true)) = _
    rw [h.step]
  · have hc := let_is (h.l c (by rw [e]; simp))
    have e1 : (c == 58) = false := by simpa using hc.1.2.2.2
    have e2 : (c == 124) = false := by simpa using hc.2.2.2.1
    have hd : driveF [a, c] = false := by
      show (letF (b2 a) && (c == 58 || c == 124)) = false
      rw [e1, e2]; simp
    rw [e]
    match t with
    | [] => exact hd
    | x :: _ => show (driveF [a, c] && _) = false; rw [hd]; rfl
omit h in
theorem dots_any' {r : Bytes} (x y : UInt8) (t : Bytes) (e : r = x :: y :: t) (hr : ∀ y ∈ r, 32 < b2 y ∧ y ≠ 35 ∧ y ≠ 63 ∧ y ≠ 58) (hx : ∀ sp, slP sp x = false) (hy : y ≠ 124) (ps : List Bytes) (hps : ∀ sp, segs sp r = ps) (l : List Bytes) (hl : segGo b.sch (shortF b.sch b.path) ps = l) : readJ b r = some (withP b l) := by
  unfold readJ
  rw [split_rest hr, join_rest g ho (by rw [e]; simp) (by unfold slN; rw [e, List.takeWhile_cons_of_neg (by rw [hx]; simp)]; rfl)]
  · unfold segP
    rw [hps, hl]
  · have hyy := (hr y (by rw [e]; simp)).2.2.2
    have e1 : (y == 58) = false := by simpa using hyy
    have e2 : (y == 124) = false := by simpa using hy
    have hd : driveF [x, y] = false := by
      show (letF (b2 x) && (y == 58 || y == 124)) = false
      rw [e1, e2]; simp
    rw [e]
    match t with
    | [] => exact hd
    | z :: _ => show (driveF [x, y] && _) = false; rw [hd]; rfl
theorem dots_2 : readJ b ([46, 47] ++ s) = some (withP b (shortF b.sch b.path ++ [s])) := by
  refine dots_any' (r := [46, 47] ++ s) g ho 46 47 s rfl (fun y hy => ?_) (fun sp => by cases sp <;> rfl) (by decide) [[46], s] (fun sp => ?_) _ ?_
  · rcases List.mem_append.mp hy with hy | hy
    · exact (by decide : ∀ z ∈ ([46, 47] : Bytes), 32 < b2 z ∧ z ≠ 35 ∧ z ≠ 63 ∧ z ≠ 58) y hy
    · exact (let_is (h.l y hy)).1
  · show segs sp ([46] ++ 47 :: s) = _
    rw [segs_app (sl_of sp).1, segs_piece (h.sl _)]
  · show segS b.sch (segS b.sch (shortF b.sch b.path) [46] false) s true = _
    rw [(dot_step _ _).1, h.step]
theorem dots_3 : readJ b ([120, 121, 47, 46, 46, 47] ++ s) = some (withP b (shortF b.sch b.path ++ [s])) := by
  refine dots_any' (r := [120, 121, 47, 46, 46, 47] ++ s) g ho 120 121 ([47, 46, 46, 47] ++ s) rfl (fun y hy => ?_) (fun sp => by cases sp <;> rfl) (by decide) [XY, UP, s] (fun sp => ?_) _ ?_
  · rcases List.mem_append.mp hy with hy | hy
    · exact (by decide : ∀ z ∈ ([120, 121, 47, 46, 46, 47] : Bytes), 32 < b2 z ∧ z ≠ 35 ∧ z ≠ 63 ∧ z ≠ 58) y hy
    · exact (let_is (h.l y hy)).1
  · show segs sp (XY ++ 47 :: (UP ++ 47 :: s)) = _
    rw [segs_app (let_xy.sl _), segs_app (sl_of sp).2.1, segs_piece (h.sl _)]
  · show segS b.sch (segS b.sch (segS b.sch (shortF b.sch b.path) XY false) UP false) s true = _
    rw [let_xy.step, up_step, let_xy.short, h.step]
theorem dots_4 : readJ b ([37, 50, 69, 47, 46, 37, 50, 101, 47, 120, 121, 47] ++ s ++ [47, 46, 46, 47, 46, 46, 47] ++ s) = some (withP b (shortF b.sch (shortF b.sch b.path) ++ [s])) := by
  refine dots_any' (r := [37, 50, 69, 47, 46, 37, 50, 101, 47, 120, 121, 47] ++ s ++ [47, 46, 46, 47, 46, 46, 47] ++ s) g ho 37 50 ([69, 47, 46, 37, 50, 101, 47, 120, 121, 47] ++ s ++ [47, 46, 46, 47, 46, 46, 47] ++ s) rfl (fun y hy => ?_) (fun sp => by cases sp <;> rfl) (by decide) [[37, 50, 69], [46, 37, 50, 101], XY, s, UP, UP, s] (fun sp => ?_) _ ?_
  · rcases List.mem_append.mp hy with hy | hy
    · rcases List.mem_append.mp hy with hy | hy
      · rcases List.mem_append.mp hy with hy | hy
        · exact (by decide : ∀ z ∈ ([37, 50, 69, 47, 46, 37, 50, 101, 47, 120, 121, 47] : Bytes), 32 < b2 z ∧ z ≠ 35 ∧ z ≠ 63 ∧ z ≠ 58) y hy
        · exact (let_is (h.l y hy)).1
      · exact (by decide : ∀ z ∈ ([47, 46, 46, 47, 46, 46, 47] : Bytes), 32 < b2 z ∧ z ≠ 35 ∧ z ≠ 63 ∧ z ≠ 58) y hy
    · exact (let_is (h.l y hy)).1
  · have e : [37, 50, 69, 47, 46, 37, 50, 101, 47, 120, 121, 47] ++ s ++ [47, 46, 46, 47, 46, 46, 47] ++ s = [37, 50, 69] ++ 47 :: ([46, 37, 50, 101] ++ 47 :: (XY ++ 47 :: (s ++ 47 :: (UP ++ 47 :: (UP ++ 47 :: s))))) := by simp [XY, UP]
    rw [e, segs_app (sl_of sp).2.2.1, segs_app (sl_of sp).2.2.2, segs_app (let_xy.sl _), segs_app (h.sl _), segs_app (sl_of sp).2.1, segs_app (sl_of sp).2.1, segs_piece (h.sl _)]
  · show segS b.sch (segS b.sch (segS b.sch (segS b.sch (segS b.sch (segS b.sch (segS b.sch (shortF b.sch b.path) [37, 50, 69] false) [46, 37, 50, 101] false) XY false) s false) UP false) UP false) s true = _
    rw [(dot_step _ _).2, up2_step, let_xy.step, h.step b.sch _ false, up_step, up_step, h.short, let_xy.short, h.step]
theorem dots_5 : readJ b ([46, 46, 47] ++ s) = some (withP b (shortF b.sch (shortF b.sch b.path) ++ [s])) := by
  refine dots_any' (r := [46, 46, 47] ++ s) g ho 46 46 ([47] ++ s) rfl (fun y hy => ?_) (fun sp => by cases sp <;> rfl) (by decide) [UP, s] (fun sp => ?_) _ ?_
  · rcases List.mem_append.mp hy with hy | hy
    · exact (by decide : ∀ z ∈ ([46, 46, 47] : Bytes), 32 < b2 z ∧ z ≠ 35 ∧ z ≠ 63 ∧ z ≠ 58) y hy
    · exact (let_is (h.l y hy)).1
  · show segs sp (UP ++ 47 :: s) = _
    rw [segs_app (sl_of sp).2.1, segs_piece (h.sl _)]
  · show segS b.sch (segS b.sch (shortF b.sch b.path) UP false) s true = _
    rw [up_step, h.step]
end
end Go.Proofs.YtpckaimpjccjhaaGreatDoor
