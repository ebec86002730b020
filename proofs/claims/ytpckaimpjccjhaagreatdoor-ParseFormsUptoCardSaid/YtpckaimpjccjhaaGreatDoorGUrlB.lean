/- UrlB WlkA WlkB WlkC WlkE WlkF WlkG WlkD: joined. -/
import Derived.Test.YtpckaimpjccjhaaGreatDoorGHlwA
import Derived.Test.YtpckaimpjccjhaaGreatDoorGSixF
import Derived.Test.YtpckaimpjccjhaaGreatDoorGSlic
import Derived.Test.YtpckaimpjccjhaaGreatDoorGFouA
import Derived.Deep.DeepCutAuto
set_option maxHeartbeats 40000000
namespace Go.Proofs.YtpckaimpjccjhaaGreatDoor
open Go.RowKit
set_option maxRecDepth 10000
abbrev uCells (pv : Value) (u : Url) : Array Value := (urlCells pv u).toArray
abbrev nilV : Value := .slice none 0 0
theorem u_info : (Tryz.prog.info? 30).map (·.size) = some 23 := by kernel_rfl
theorem u_len {pv : Value} {u : Url} (h : u.host.six.length = 8) : (urlCells pv u).length = 23 := by simp [urlCells, hstCells, h]
theorem u_size {pv : Value} {u : Url} (h : u.host.six.length = 8) : (uCells pv u).size = 23 := by rw [List.size_toArray, u_len h]
theorem u_one {pv : Value} {u : Url} (h1 : pv.oneCell' = true) : ∀ v ∈ urlCells pv u, v.oneCell' = true := by
 intro v hv
 simp only [urlCells, List.mem_append, List.mem_cons, List.not_mem_nil, or_false] at hv
 rcases hv with ((e | e | e) | e) | e | e | e | e | e | e | e | e | e
 all_goals first | exact hst_one v e | (rw [e]; first | rfl | exact h1)
theorem allUrl (w : World) : (Instr.alloc 30 true (Value.tuple #[])).run Tryz.prog w = .ok (.pointer (some ⟨w.heap.size, 0, none⟩)) (w.alloc (.cells (uCells nilV U0) 30)) := by kernel_rfl
theorem bldUrl0 : ∀ w, (Instr.build 30 #[]).run Tryz.prog w = .ok (.agg (uCells nilV U0)) w := fun w => by kernel_rfl
structure UAt (cs : Array Value) (pv : Value) (u : Url) : Prop where
 sch : cs[0]? = some (S u.sch)
 usr : cs[1]? = some (S u.usr)
 pas : cs[2]? = some (S u.pas)
 kind : cs[3]? = some (.int .i64 u.host.kind)
 name : cs[4]? = some (S u.host.name)
 hasPort : cs[14]? = some (.bool u.hasPort)
 port : cs[15]? = some (.int .i64 u.port)
 opq : cs[16]? = some (.bool u.opq)
 flat : cs[17]? = some (S u.flat)
 path : cs[18]? = some pv
 hasQ : cs[19]? = some (.bool u.hasQ)
 q : cs[20]? = some (S u.q)
 hasF : cs[21]? = some (.bool u.hasF)
 f : cs[22]? = some (S u.f)
 host : ∀ j v, (hstCells u.host)[j]? = some v -> cs[3 + j]? = some v
theorem uAt (pv : Value) (u : Url) (h : u.host.six.length = 8) : UAt (uCells pv u) pv u := by
 have hh : ∀ j v, (hstCells u.host)[j]? = some v -> (uCells pv u)[3 + j]? = some v := by
  intro j v hj
  have hl := (List.getElem?_eq_some_iff.1 hj).1
  rw [List.getElem?_toArray]
  unfold urlCells
  rw [List.append_assoc, List.getElem?_append_right (by simp), List.getElem?_append_left (by simp; omega)]
  simpa using hj
 obtain ⟨sch, usr, pas, ⟨hk, hn, hf, six⟩, a1, a2, a3, a4, a5, a6, a7, a8, a9⟩ := u
 simp only at h
 obtain ⟨a, b, c, d, e, f, g, i, rfl⟩ := eight h
 exact ⟨rfl, rfl, rfl, rfl, rfl, rfl, rfl, rfl, rfl, rfl, rfl, rfl, rfl, rfl, hh⟩
structure UPut (pv : Value) (u : Url) : Prop where
 usr : ∀ x, (uCells pv u).setIfInBounds 1 (S x) = uCells pv { u with usr := x }
 pas : ∀ x, (uCells pv u).setIfInBounds 2 (S x) = uCells pv { u with pas := x }
 kind : ∀ k, (uCells pv u).setIfInBounds 3 (.int .i64 k) = uCells pv { u with host := { u.host with kind := k } }
 hasPort : ∀ x, (uCells pv u).setIfInBounds 14 (.bool x) = uCells pv { u with hasPort := x }
 port : ∀ x, (uCells pv u).setIfInBounds 15 (.int .i64 x) = uCells pv { u with port := x }
 opq : ∀ x, (uCells pv u).setIfInBounds 16 (.bool x) = uCells pv { u with opq := x }
 flat : ∀ x, (uCells pv u).setIfInBounds 17 (S x) = uCells pv { u with flat := x }
 path : ∀ v l, (uCells pv u).setIfInBounds 18 v = uCells v { u with path := l }
 hasQ : ∀ x, (uCells pv u).setIfInBounds 19 (.bool x) = uCells pv { u with hasQ := x }
 q : ∀ x, (uCells pv u).setIfInBounds 20 (S x) = uCells pv { u with q := x }
 hasF : ∀ x, (uCells pv u).setIfInBounds 21 (.bool x) = uCells pv { u with hasF := x }
 f : ∀ x, (uCells pv u).setIfInBounds 22 (S x) = uCells pv { u with f := x }
theorem uPut (pv : Value) (u : Url) (h : u.host.six.length = 8) : UPut pv u := by
 obtain ⟨sch, usr, pas, ⟨hk, hn, hf, six⟩, a1, a2, a3, a4, a5, a6, a7, a8, a9⟩ := u
 simp only at h
 obtain ⟨a, b, c, d, e, f, g, i, rfl⟩ := eight h
 exact ⟨fun _ => rfl, fun _ => rfl, fun _ => rfl, fun _ => rfl, fun _ => rfl, fun _ => rfl, fun _ => rfl, fun _ _ => rfl, fun _ => rfl, fun _ => rfl, fun _ => rfl, fun _ => rfl⟩
theorem u_host (pv : Value) (u : Url) (g : Hst) (g8 : g.six.length = 8) (h8 : u.host.six.length = 8) : putC (uCells pv u) 3 (hstCells g) = uCells pv { u with host := g } :=
 putC_mid (hstCells g) [S u.sch, S u.usr, S u.pas] (hstCells u.host) [.bool u.hasPort, .int .i64 u.port, .bool u.opq, S u.flat, pv, .bool u.hasQ, S u.q, .bool u.hasF, S u.f] (by simp [hstCells, g8, h8])
section
variable {ops : Array Oper} {rest : List Oper} {o : Oper} {a : Act} {w : World} {Q : Exit -> Act -> World -> Prop}
theorem storeUrl {W : World} (hg : o.guard = none) (x y : Operand) (ho : o.op = .store 30 x y) (pv : Value) (u : Url) (hl : u.host.six.length = 8) (h1 : pv.oneCell' = true) (hW : W = w.alloc (.cells (uCells nilV U0) 30)) (hx : a.eval x = .pointer (some ⟨w.heap.size, 0, none⟩)) (hy : a.eval y = .agg (uCells pv u))
  (k : ∀ w', CB w' w.heap.size 30 (uCells pv u) -> Below w.heap.size w w' -> wpList Tryz.prog ops Q rest (a.put o.dst undef) w') : wpList Tryz.prog ops Q (o :: rest) a W :=
 storeC hg _ x y ho (uCells pv u) (uCells nilV U0) (by rw [u_size hl]; exact u_info) (by rw [u_size hl]; rfl) (all_oneCell_toArray (u_one h1)) hW hx hy k
theorem loadUrl_exec (x : Operand) (ho : o.op = .load 30 x) (b : Nat) (pv : Value) (u : Url) (hl : u.host.six.length = 8) (hx : a.eval x = .pointer (some ⟨b, 0, none⟩)) (i : CB w b 30 (uCells pv u)) : (execOp a.eval o).run Tryz.prog w = .ok (.value (.agg (uCells pv u))) w :=
 loadC_exec _ x ho b (uCells pv u) _ Tryz.underlying30 rfl (by rw [u_size hl]; exact u_info) hx i
theorem loadUrl (hg : Region.wanted o (yielded ops a.tmps) = true) (x : Operand) (ho : o.op = .load 30 x) (b : Nat) (pv : Value) (u : Url) (hl : u.host.six.length = 8) (hx : a.eval x = .pointer (some ⟨b, 0, none⟩)) (i : CB w b 30 (uCells pv u)) (k : wpList Tryz.prog ops Q rest (a.put o.dst (.agg (uCells pv u))) w) : wpList Tryz.prog ops Q (o :: rest) a w :=
 val_w hg _ (loadUrl_exec x ho b pv u hl hx i) k
end

theorem letter_any (c : Int) (w : World) : Calls Tryz.prog 91 #[.int .u8 c] w fun e w' => e = .returned (.bool (letF c)) ∧ w' = w := by
 have h : c < 65 ∨ (65 <= c ∧ c <= 90) ∨ (90 < c ∧ c < 97) ∨ (97 <= c ∧ c <= 122) ∨ 122 < c := by omega
 rcases h with h | ⟨h1, h2⟩ | ⟨h1, h2⟩ | ⟨h1, h2⟩ | h
 all_goals
  go_enter Tryz.func91, Tryz.ntmps91
  go_wp2_with fail
  all_goals
   go_ret
   refine ⟨ret1_bool ?_, rfl⟩
   unfold letF
   first
    | exact (decide_eq_true (p := (65 <= c ∧ c <= 90) ∨ (97 <= c ∧ c <= 122)) (by omega)).symm
    | exact (decide_eq_false (p := (65 <= c ∧ c <= 90) ∨ (97 <= c ∧ c <= 122)) (by omega)).symm
    | (rw [decide_eq_false (p := (65 <= c ∧ c <= 90) ∨ (97 <= c ∧ c <= 122)) (by omega)]; simp; omega)
theorem trim1_any (c : Int) (w : World) : Calls Tryz.prog 94 #[.int .u8 c] w fun e w' => e = .returned (.bool (decide (c <= 32))) ∧ w' = w := by
 go_enter Tryz.func94, Tryz.ntmps94
 go_wp2_with fail
 go_ret
 exact ⟨rfl, rfl⟩
def rtF (s : Bytes) : Bytes := (s.reverse.dropWhile le32).reverse
theorem trim_rt (s : Bytes) : trimF s = rtF (s.dropWhile le32) := rfl
theorem rt_snoc (s : Bytes) (c : UInt8) : rtF (s ++ [c]) = if le32 c = true then rtF s else s ++ [c] := by
 unfold rtF
 rw [List.reverse_append]
 show (List.dropWhile le32 (c :: s.reverse)).reverse = _
 cases h : le32 c with
 | true => rw [List.dropWhile_cons_of_pos h]; rfl
 | false => rw [List.dropWhile_cons_of_neg (by simp [h])]; simp
theorem rt_at {s : Bytes} {k : Nat} (h : s.length = k + 1) : rtF s = if b2 (s[k]'(by omega)) <= 32 then rtF (s.take k) else s := by
 have e : s = s.take k ++ [s[k]'(by omega)] := by
  rw [<- List.take_succ_eq_append_getElem (by omega), List.take_of_length_le (by omega)]
 have hr := rt_snoc (s.take k) (s[k]'(by omega))
 rw [<- e] at hr
 rw [hr]
 unfold le32
 by_cases hc : b2 (s[k]'(by omega)) <= 32
 ·rw [if_pos hc, if_pos (by simpa using hc)]
 ·rw [if_neg hc, if_neg (by simpa using hc)]
theorem lead_at {s : Bytes} (h : 0 < s.length) : s.dropWhile le32 = if b2 s[0] <= 32 then (s.drop 1).dropWhile le32 else s := by
 cases s with
 | nil => cases h
 | cons c t =>
  show List.dropWhile le32 (c :: t) = if b2 c <= 32 then t.dropWhile le32 else c :: t
  by_cases hc : b2 c <= 32
  ·rw [if_pos hc, List.dropWhile_cons_of_pos (by unfold le32; simpa using hc)]
  ·rw [if_neg hc, List.dropWhile_cons_of_neg (by unfold le32; simpa using hc)]
theorem ext_all (t : Bytes) (k n : Nat) (h : n = t.length) : (bs t).extract k n = bs (t.drop k) := by
 rw [bs_extract, h, List.take_of_length_le (by rw [List.length_drop]; omega)]
theorem ext_to (t : Bytes) (k : Nat) : (bs t).extract 0 k = bs (t.take k) := by
 rw [bs_extract, List.drop_zero, Nat.sub_zero]
theorem without_any (l : Bytes) (w : World) (hl : l.length <= 1024000000) : Calls Tryz.prog 93 #[.string (bs l), .func (Fn.func 94) #[] #[]] w fun e w' => e = .returned (S (trimF l)) ∧ w' = w := by
 rw [trim_rt]
 obtain ⟨L, hL⟩ := ex_ (l.dropWhile le32)
 have hLl : L.length <= l.length := by
  obtain ⟨a, ha⟩ := dropW_suffix le32 l
  have := congrArg List.length ha
  rw [List.length_append, <- hL] at this
  omega
 rw [<- hL]
 have HL := h_ hL; clear hL
 have HT1 := h_ (fun c W => trim1_any c W)
 go_enter Tryz.func93, Tryz.ntmps93
 go_wp2_with fail
 go_loopw [0] (fun sv wr => ∃ t : Bytes, sv = .string (bs t) ∧ t.length <= 1024000000 ∧ Hid (L = t.dropWhile le32) ∧ w = wr) (fun sv _ => lenS sv)
 case atStart => exact ⟨l, rfl, hl, HL.out, rfl⟩
 case round =>
  obtain ⟨t, rfl, htl, ht, rfl⟩ := hrel
  obtain ⟨s, hs⟩ := ex_ (bs t)
  have hsz : s.size = t.length := by rw [hs, bs_size]
  have hse : s.toList = t := by rw [hs, toList_bs]
  by_cases hn : t = []
  ·have he : s.toList = [] := by rw [hse, hn]
   have he1 : s.toList.isEmpty = true := by rw [he]; rfl
   have hLn : L = [] := by rw [ht.out, hn]; rfl
   rw [<- hs]
   have HS := h_ (show s = bs (rtF L) by rw [hs, hn, hLn]; rfl)
   clear ht hse hn hs hsz
   go_wp2_with fail
   obtain ⟨w2, hw2⟩ := ex_ (w)
   have HW := h_ hw2
   rw [<- hw2]
   clear hw2
   go_loopw [0] (fun sv wr => sv = .string s ∧ w2 = wr) (fun sv _ => lenS sv)
   case atStart => exact ⟨rfl, rfl⟩
   case round =>
    obtain ⟨rfl, rfl⟩ := hrel
    go_wp2_with fail
    go_ret
    exact ⟨by rw [HS.out]; rfl, HW.out⟩
  ·have he : ¬ s.toList = [] := by rw [hse]; exact hn
   have he1 : s.toList.isEmpty = false := by simpa using he
   have hpos : 0 < t.length := List.length_pos_iff.mpr hn
   have h0s : 0 < s.size := by omega
   have hx : ((s[0]'h0s).toNat : Int) = b2 t[0] := str_at hs h0s hpos
   have hat := lead_at hpos
   have hex : s.extract 1 s.size = bs (t.drop 1) := by rw [hs]; exact ext_all t 1 _ (bs_size t)
   obtain ⟨N, hN⟩ := ex_ (s.size)
   have hsN : s.size = N := hN.symm
   rw [hsN] at hex h0s
   have hNi : (1 : Int) <= N := by omega
   have h0i : (0 : Int) < N := by omega
   have hNt : N = t.length := by omega
   rw [<- hs]
   obtain ⟨X, hX⟩ := ex_ (b2 t[0])
   rw [<- hX] at hx hat
   by_cases hc : X <= 32
   ·rw [if_pos hc] at hat
    have hnx : L = (t.drop 1).dropWhile le32 := by rw [ht.out, hat]
    have hrl : (t.drop 1).length + 1 = N ∧ N <= 1024000000 := by rw [List.length_drop]; omega
    generalize t.drop 1 = r at hnx hrl hex
    have HNX := h_ hnx
    have HRL := h_ hrl
    clear hnx hrl
    clear ht hat hX hse hn hs hsz hN hpos hNt htl
    go_wp2_with (first | (go_at_call 94; refine (HT1.out _ _).mono ?_; rintro e w3 ⟨rfl, hw3⟩; subst hw3) | fail)
    go_roundw
    case rel => exact ⟨r, rfl, by have := HRL.out; omega, HNX.out, by first | rfl | trivial⟩
    case measure =>
     have := HRL.out
     show (bs r).size < s.size
     rw [bs_size, hsN]
     omega
   ·rw [if_neg hc] at hat
    have hLt : L = t := ht.out.trans hat
    have HRT := h_ (show rtF L = rtF t by rw [hLt])
    have HSS := h_ hs
    have HT := h_ htl
    clear ht hat hX hse hn hsz hN hpos hNt htl hex hs hLt HL
    go_wp2_with (first | (go_at_call 94; refine (HT1.out _ _).mono ?_; rintro e w3 ⟨rfl, hw3⟩; subst hw3) | fail)
    obtain ⟨w2, hw2⟩ := ex_ (w3)
    have HW := h_ hw2
    rw [<- hw2]
    clear hw2
    go_loopw [0] (fun sv wr => ∃ t : Bytes, sv = .string (bs t) ∧ t.length <= 1024000000 ∧ Hid (rtF L = rtF t) ∧ w2 = wr) (fun sv _ => lenS sv)
    case atStart => exact ⟨t, by rw [HSS.out], HT.out, HRT.out, rfl⟩
    case round =>
     clear HT HRT HSS hx hsN hNi h0i h0s he he1 hc
     obtain ⟨t, rfl, htl, ht, rfl⟩ := hrel
     obtain ⟨s, hs⟩ := ex_ (bs t)
     have hsz : s.size = t.length := by rw [hs, bs_size]
     have hse : s.toList = t := by rw [hs, toList_bs]
     by_cases hn : t = []
     ·have he : s.toList = [] := by rw [hse, hn]
      have he1 : s.toList.isEmpty = true := by rw [he]; rfl
      rw [<- hs]
      have HS := h_ (show s = bs (rtF L) by rw [hs, ht.out, hn]; rfl)
      clear ht hse hn hs hsz
      go_wp2_with fail
      go_ret
      exact ⟨by rw [HS.out]; rfl, HW.out⟩
     ·have he : ¬ s.toList = [] := by rw [hse]; exact hn
      have he1 : s.toList.isEmpty = false := by simpa using he
      have hpos : 0 < t.length := List.length_pos_iff.mpr hn
      obtain ⟨M, hM⟩ : ∃ M, t.length = M + 1 := ⟨t.length - 1, by omega⟩
      have hMs : M < s.size := by omega
      have hx : ((s[M]'hMs).toNat : Int) = b2 (t[M]'(by omega)) := str_at hs hMs (by omega)
      have hat := rt_at hM
      have hex : s.extract 0 M = bs (t.take M) := by rw [hs]; exact ext_to t M
      obtain ⟨N, hN⟩ := ex_ (s.size)
      have hsN : s.size = N := hN.symm
      have hNM : N = M + 1 := by omega
      have hMN : M < N := by omega
      have hwr : IntKind.i64.wrap ((N : Int) - 1) = (M : Int) := by rw [show (N : Int) - 1 = (M : Int) by omega]; exact IntWalk.i64_in _ (by omega)
      have hMi : (M : Int) < N := by omega
      have hMl : (M : Int) <= N := by omega
      rw [<- hs]
      obtain ⟨X, hX⟩ := ex_ (b2 (t[M]'(by omega)))
      rw [<- hX] at hx hat
      by_cases hc : X <= 32
      ·rw [if_pos hc] at hat
       have hnx : rtF L = rtF (t.take M) := by rw [ht.out, hat]
       have hrl : (t.take M).length = M ∧ M < N ∧ N <= 1024000001 := by rw [List.length_take]; omega
       generalize t.take M = r at hnx hrl hex
       have HNX := h_ hnx
       have HRL := h_ hrl
       clear hnx hrl
       clear ht hat hX hse hn hs hsz hN hpos htl hNM hM
       go_wp2_with (first | (go_at_call 94; refine (HT1.out _ _).mono ?_; rintro e w4 ⟨rfl, hw4⟩; subst hw4) | fail)
       go_roundw
       case rel => exact ⟨r, rfl, by have := HRL.out; omega, HNX.out, by first | rfl | trivial⟩
       case measure =>
        have := HRL.out
        show (bs r).size < s.size
        rw [bs_size, hsN]
        omega
      ·rw [if_neg hc] at hat
       have HS := h_ (show s = bs (rtF L) by rw [hs, ht.out, hat])
       clear ht hat hX hse hn hs hsz hN hpos htl hNM hM hex
       go_wp2_with (first | (go_at_call 94; refine (HT1.out _ _).mono ?_; rintro e w4 ⟨rfl, hw4⟩; subst hw4) | fail)
       go_ret
       exact ⟨by rw [HS.out]; rfl, HW.out⟩

theorem trim_any (l : Bytes) (w : World) (hl : l.length <= 1024000000) : Calls Tryz.prog 52 #[.string (bs l)] w fun e w' => e = .returned (S (trimF l)) ∧ w' = w := by
 have HW := h_ (fun W => without_any l W hl)
 obtain ⟨s, hs⟩ := ex_ (bs l)
 obtain ⟨t, ht⟩ := ex_ (bs (trimF l))
 have HW2 := h_ (show ∀ W, Calls Tryz.prog 93 #[.string s, .func (Fn.func 94) #[] #[]] W fun e w' => e = .returned (.string t) ∧ w' = W from by rw [hs, ht]; exact HW.out)
 rw [<- hs]
 have HT := h_ ht
 clear hs ht HW
 go_enter Tryz.func52, Tryz.ntmps52
 go_wp2_with fail
 refine (HW2.out _).mono ?_
 rintro e w2 ⟨rfl, hw⟩
 subst hw
 go_wp2_with fail
 go_ret
 exact ⟨by rw [HT.out]; rfl, rfl⟩
theorem tight_take {l : Bytes} {k : Nat} (h : k < l.length) : tightF (l.take (k + 1)) = if b2 l[k] = 9 ∨ b2 l[k] = 10 ∨ b2 l[k] = 13 then tightF (l.take k) else tightF (l.take k) ++ [l[k]] := by
 rw [List.take_succ_eq_append_getElem h]
 unfold tightF
 rw [List.filter_append]
 have e9 : (l[k] == 9) = decide (b2 l[k] = 9) := by
  rw [Bool.eq_iff_iff, beq_iff_eq, decide_eq_true_eq]
  exact ⟨fun h => by rw [h]; decide, fun h => b2_inj (h.trans (by decide))⟩
 have e10 : (l[k] == 10) = decide (b2 l[k] = 10) := by
  rw [Bool.eq_iff_iff, beq_iff_eq, decide_eq_true_eq]
  exact ⟨fun h => by rw [h]; decide, fun h => b2_inj (h.trans (by decide))⟩
 have e13 : (l[k] == 13) = decide (b2 l[k] = 13) := by
  rw [Bool.eq_iff_iff, beq_iff_eq, decide_eq_true_eq]
  exact ⟨fun h => by rw [h]; decide, fun h => b2_inj (h.trans (by decide))⟩
 by_cases hc : b2 l[k] = 9 ∨ b2 l[k] = 10 ∨ b2 l[k] = 13
 ·rw [if_pos hc, List.filter_cons_of_neg (by
   rw [e9, e10, e13]
   rcases hc with h | h | h <;> simp [h]), List.filter_nil, List.append_nil]
 ·rw [if_neg hc, List.filter_cons_of_pos (by
   rw [e9, e10, e13]
   simp only [not_or] at hc
   simp [hc.1, hc.2.1, hc.2.2]), List.filter_nil]
theorem tight_len (l : Bytes) : (tightF l).length <= l.length := List.length_filter_le _ _
theorem tight_any (l : Bytes) (w : World) (hl : l.length <= 1024000000) : Calls Tryz.prog 51 #[.string (bs l)] w fun e w' => e = .returned (S (tightF l)) ∧ Below w.heap.size w w' := by
 obtain ⟨i8, hi8, hz8, hz81, hz82⟩ := info_parts u8_info
 obtain ⟨s, hs⟩ := ex_ (bs l)
 have hsz : s.size = l.length := by rw [hs, bs_size]
 have hby : ∀ k (hk : k < s.size) (hk2 : k < l.length), ((s[k]'hk).toNat : Int) = b2 l[k] := fun k hk hk2 => str_at hs hk hk2
 rw [<- hs]
 clear hs
 obtain ⟨N, hN⟩ := ex_ (s.size)
 have hsN : s.size = N := hN.symm
 have hNm : N <= 1024000000 := by omega
 have HBY := h_ hby; clear hby
 have HSZ := h_ hsz; clear hsz hl hN
 go_enter Tryz.func51, Tryz.ntmps51
 go_wp2_with fail
 obtain ⟨w1, hr, hown0, hgr⟩ := run_make_own (P := Tryz.prog) w w.heap.size 38 5 i8 (.int .u8 0) 1 Tryz.underlying38 hi8 hz8 hz81 .i64 .i64 N (by rw [hz82]; omega) (Nat.le_trans hNm (by decide)) (Nat.le_refl _)
 have hb1 : Below w.heap.size w w1 := ⟨hgr.os, hgr.tape, hgr.output, hgr.size, fun k hk => hgr.block k hk (by simp)⟩
 have HO0 := h_ hown0; clear hown0
 have HB1 := h_ hb1; clear hb1 hgr
 rw [hr]
 clear hr
 go_wp2_with fail
 go_loopw [3, 11] (fun ov iv wr => ∃ (k : Nat), k <= N ∧ iv = .int .i64 k ∧ Hid (wr.ownsRow w.heap.size 5 1 ov (tightF (l.take k)).length (Lib.byteCells (tightF (l.take k)))) ∧ Hid (Below w.heap.size w wr)) (fun _ i _ => N - (intOf i).toNat)
 case atStart => exact ⟨0, by omega, by simp, HO0.out, HB1.out⟩
 case round =>
  obtain ⟨k, hk, rfl, HO, HB⟩ := hrel
  by_cases hlt : k < N
  ·have hku : k < s.size := by omega
   have hkl : k < l.length := by have := HSZ.out; omega
   have hx := HBY.out k hku hkl
   have htk := tight_take hkl
   have htl := tight_len (l.take k)
   rw [List.length_take] at htl
   have hwz : w.heap.size <= wr.heap.size := HB.out.size
   have hbc := fun o : Bytes => (bytes_snoc o l[k]).symm
   obtain ⟨X, hX⟩ : ∃ X : Int, X = b2 l[k] := ⟨_, rfl⟩
   rw [<- hX] at hx htk hbc
   clear hX
   obtain ⟨o, ho⟩ := ex_ (tightF (l.take k))
   rw [<- ho] at htk htl HO
   obtain ⟨al, hal⟩ := ex_ (o.length)
   have hown := HO.out
   rw [<- hal] at hown htl
   have HO1 := h_ hown
   clear hown HO ho
   by_cases hc : X = 9 ∨ X = 10 ∨ X = 13
   ·rw [if_pos hc] at htk
    have HOK := h_ (show wr.ownsRow w.heap.size 5 1 _ (tightF (l.take (k + 1))).length (Lib.byteCells (tightF (l.take (k + 1)))) by rw [htk, <- hal]; exact HO1.out)
    clear htk hal hbc htl HO1
    rcases hc with rfl | rfl | rfl
    all_goals
     go_wp2_with fail
     go_roundw
     case rel => exact ⟨k + 1, by omega, by simp, HOK.out, HB.out⟩
     case measure => simp [intOf]; omega
   ·rw [if_neg hc] at htk
    have HTK := h_ htk
    have HAL := h_ hal
    have HBC := h_ (hbc o)
    have e9 : (X == 9) = false := by simpa using fun h => hc (.inl h)
    have e10 : (X == 10) = false := by simpa using fun h => hc (.inr (.inl h))
    have e13 : (X == 13) = false := by simpa using fun h => hc (.inr (.inr h))
    clear htk hal hbc hc
    go_wp2_with (first | (at_builtin; (refine push1 rfl (.tmp 18) (.tmp 20) _ rfl w.heap.size 5 i8 (.int .u8 0) 1 Tryz.underlying38 hi8 hz8 hz81 hz82 (by decide) _ _ _ (Lib.byteCells o) rfl HO1.out (.int .u8 X) rfl rfl (by omega) (by decide) (by omega) ?_); intro v2 w2 hown2 hw2 hb2; have HO2 := h_ hown2; clear hown2; have HB2 := h_ hb2; clear hb2) | fail)
    go_roundw
    case rel =>
     refine ⟨k + 1, by omega, by simp, ?_, HB.out.trans HB2.out⟩
     have h := HO2.out
     rw [HTK.out, List.length_append, <- HAL.out, <- HBC.out]
     exact h
    case measure => simp [intOf]; omega
  ·obtain rfl : k = N := by omega
   have htk : l.take k = l := List.take_of_length_le (by have := HSZ.out; omega)
   rw [htk] at HO
   have kc := conv_own (P := Tryz.prog) Tryz.underlying38 Tryz.underlying5 Tryz.underlying9 HO.out
   obtain ⟨t, ht⟩ := ex_ (bs (tightF l))
   rw [<- ht] at kc
   have HT := h_ ht
   clear HO htk ht
   go_wp2_with fail
   go_ret
   exact ⟨by rw [HT.out]; rfl, HB.out⟩
theorem trimF_len (l : Bytes) : (trimF l).length <= l.length := by
 rw [trim_rt]
 obtain ⟨a, ha⟩ := dropW_suffix le32 l
 have h1 := congrArg List.length ha
 rw [List.length_append] at h1
 unfold rtF
 rw [List.length_reverse]
 obtain ⟨b, hb⟩ := dropW_suffix le32 (l.dropWhile le32).reverse
 have h2 := congrArg List.length hb
 rw [List.length_append, List.length_reverse] at h2
 omega
theorem clean_any (l : Bytes) (w : World) (hl : l.length <= 1024000000) : Calls Tryz.prog 18 #[.string (bs l)] w fun e w' => e = .returned (S (cleanF l)) ∧ Below w.heap.size w w' := by
 have h1 := fun W => trim_any l W hl
 have h2 := fun W => tight_any (trimF l) W (by have := trimF_len l; omega)
 obtain ⟨s, hs⟩ := ex_ (bs l)
 obtain ⟨t, ht⟩ := ex_ (bs (trimF l))
 obtain ⟨r, hr⟩ := ex_ (bs (cleanF l))
 have H1 := h_ (show ∀ W, Calls Tryz.prog 52 #[.string s] W fun e w' => e = .returned (.string t) ∧ w' = W from by rw [hs, ht]; exact h1)
 have H2 := h_ (show ∀ W, Calls Tryz.prog 51 #[.string t] W fun e w' => e = .returned (.string r) ∧ Below W.heap.size W w' from by rw [ht, hr]; exact h2)
 rw [<- hs]
 have HR := h_ hr
 clear hs ht hr h1 h2
 go_enter Tryz.func18, Tryz.ntmps18
 go_wp2_with (first
  | (go_at_call 52; refine (H1.out _).mono ?_; rintro e w2 ⟨rfl, hw⟩; subst hw)
  | (go_at_call 51; refine (H2.out _).mono ?_; rintro e w3 ⟨rfl, hb⟩; have HB := h_ hb; clear hb)
  | fail)
 go_ret
 exact ⟨by rw [HR.out]; rfl, HB.out⟩

theorem dig_schC (c : Int) : (dgt c 10 < 0) = ¬ (48 <= c ∧ c <= 57) := by
 have h := dgt10 c
 unfold dgt at *
 simp only at *
 by_cases h1 : 48 <= c ∧ c <= 57
 ·rw [if_pos h1] at *
  simp [h1]
  split <;> omega
 ·rw [if_neg h1] at *
  simp only [h1, not_false_eq_true, eq_iff_iff, iff_true]
  split <;> (try split) <;> (try split) <;> omega
theorem sch_at {l : Bytes} {k : Nat} (h : k < l.length) : (l.drop k).all (fun y => schC (b2 y)) = (schC (b2 l[k]) && (l.drop (k + 1)).all (fun y => schC (b2 y))) := by
 rw [List.drop_eq_getElem_cons h, List.all_cons]
theorem pnamed_any (l : Bytes) (w : World) (hl : l.length <= 1024000000) : Calls Tryz.prog 49 #[.string (bs l)] w fun e w' => e = .returned (.bool (schN l)) ∧ w' = w := by
 obtain ⟨s, hs⟩ := ex_ (bs l)
 have hsz : s.size = l.length := by rw [hs, bs_size]
 have hby : ∀ k (hk : k < s.size) (hk2 : k < l.length), ((s[k]'hk).toNat : Int) = b2 l[k] := fun k hk hk2 => str_at hs hk hk2
 have hemp : (s.toList = []) ↔ l = [] := by rw [hs, toList_bs]
 rw [<- hs]
 clear hs
 obtain ⟨N, hN⟩ := ex_ (s.size)
 have hsN : s.size = N := hN.symm
 have hNm : N <= 1024000000 := by omega
 by_cases hnil : l = []
 ·have he := hemp.mpr hnil
  have he1 : s.toList.isEmpty = true := by rw [he]; rfl
  have HR := h_ (show schN l = false by rw [hnil]; rfl)
  clear hemp hby hsz hl hN hnil
  go_enter Tryz.func49, Tryz.ntmps49
  go_wp2_with fail
  go_ret
  exact ⟨by rw [HR.out]; rfl, rfl⟩
 have he : ¬ s.toList = [] := fun h => hnil (hemp.mp h)
 have he1 : s.toList.isEmpty = false := by simpa using he
 have hpos : 0 < l.length := List.length_pos_iff.mpr hnil
 have h0s : 0 < s.size := by omega
 have hx0 := hby 0 h0s hpos
 have hsn : schN l = (letF (b2 l[0]) && (l.drop 1).all fun y => schC (b2 y)) := by
  cases l with
  | nil => cases hpos
  | cons c t => rfl
 have h0N : (0 : Int) < N := by omega
 rw [hsN] at h0s
 obtain ⟨X, hX⟩ := ex_ (b2 l[0])
 rw [<- hX] at hx0 hsn
 obtain ⟨R, hR⟩ := ex_ ((l.drop 1).all fun y => schC (b2 y))
 rw [<- hR] at hsn
 have HLE0 := h_ (fun W => letter_any X W)
 have HBY := h_ hby
 have HSZ := h_ hsz
 have HR := h_ hR
 have HSN := h_ hsn
 clear hemp hby hsz hl hN hnil hpos hX hR hsn
 cases hq : letF X with
 | false =>
  rw [hq] at HLE0 HSN
  go_enter Tryz.func49, Tryz.ntmps49
  go_wp2_with (first | (go_at_call 91; refine (HLE0.out _).mono ?_; rintro e w2 ⟨rfl, hw⟩; subst hw) | fail)
  go_ret
  exact ⟨by rw [HSN.out]; rfl, rfl⟩
 | true =>
  rw [hq] at HLE0 HSN
  go_enter Tryz.func49, Tryz.ntmps49
  go_wp2_with (first | (go_at_call 91; refine (HLE0.out _).mono ?_; rintro e w2 ⟨rfl, hw⟩; subst hw) | fail)
  obtain ⟨w3, hw3⟩ := ex_ (w2)
  have HW := h_ hw3
  rw [<- hw3]
  clear hw3
  go_loopw [3] (fun iv wr => ∃ (k : Nat), 1 <= k ∧ k <= N ∧ iv = .int .i64 k ∧ Hid ((l.drop k).all (fun y => schC (b2 y)) = R) ∧ w3 = wr) (fun i _ => N - (intOf i).toNat)
  case atStart => exact ⟨1, by omega, by omega, by simp, HR.out.symm, rfl⟩
  case round =>
   obtain ⟨k, hk1, hk, rfl, hd, rfl⟩ := hrel
   by_cases hlt : k < N
   ·have hku : k < s.size := by omega
    have hkl : k < l.length := by have := HSZ.out; omega
    have hx := HBY.out k hku hkl
    have hst := sch_at hkl
    rw [hd.out] at hst
    have hr := b2_lt l[k]
    have hle := fun W => letter_any (b2 l[k]) W
    have hda := fun W => digitA_any (b2 l[k]) 10 W hr (by omega)
    have hdg := dig_schC (b2 l[k])
    obtain ⟨Y, hY⟩ := ex_ (b2 l[k])
    rw [<- hY] at hx hst hle hda hr hdg
    clear hY hd
    obtain ⟨D, hD⟩ := ex_ (dgt Y 10)
    rw [<- hD] at hda hdg
    clear hD
    have HDA := h_ hda; clear hda
    have HLE := h_ hle; clear hle
    obtain ⟨T, hT⟩ := ex_ ((l.drop (k + 1)).all fun y => schC (b2 y))
    rw [<- hT] at hst
    have HTT := h_ hT; clear hT
    unfold schC at hst
    cases hq2 : letF Y with
    | true =>
     rw [hq2] at hst HLE
     have HST := h_ (show R = T by rw [hst]; simp)
     clear hst hdg
     go_wp2_with (first | (go_at_call 91; refine (HLE.out _).mono ?_; rintro e w4 ⟨rfl, hw⟩; subst hw) | fail)
     go_roundw
     case rel => exact ⟨k + 1, by omega, by omega, by simp, (HTT.out.symm.trans HST.out.symm), by trivial⟩
     case measure => simp [intOf]; omega
    | false =>
     rw [hq2] at hst HLE
     by_cases hdig : 48 <= Y ∧ Y <= 57
     ·have hD : ¬ D < 0 := by rw [hdg]; simp [hdig]
      have HST := h_ (show R = T by rw [hst]; simp [hdig])
      clear hst hdg hdig
      go_wp2_with (first
       | (go_at_call 91; refine (HLE.out _).mono ?_; rintro e w4 ⟨rfl, hw⟩; subst hw)
       | (go_at_call 92; refine (HDA.out _).mono ?_; rintro e w5 ⟨rfl, rfl⟩)
       | fail)
      go_roundw
      case rel => exact ⟨k + 1, by omega, by omega, by simp, (HTT.out.symm.trans HST.out.symm), by trivial⟩
      case measure => simp [intOf]; omega
     ·have hD : D < 0 := by rw [hdg]; exact hdig
      by_cases h3 : Y = 43 ∨ Y = 45 ∨ Y = 46
      ·have HST := h_ (show R = T by rw [hst]; rcases h3 with h | h | h <;> simp [h])
       clear hst hdg hdig
       rcases h3 with rfl | rfl | rfl
       all_goals
        go_wp2_with (first
         | (go_at_call 91; refine (HLE.out _).mono ?_; rintro e w4 ⟨rfl, hw⟩; subst hw)
         | (go_at_call 92; refine (HDA.out _).mono ?_; rintro e w5 ⟨rfl, rfl⟩)
         | fail)
        go_roundw
        case rel => exact ⟨k + 1, by omega, by omega, by simp, (HTT.out.symm.trans HST.out.symm), by trivial⟩
        case measure => simp [intOf]; omega
      ·have HST := h_ (show R = false by rw [hst]; simp [hdig]; intro h; exact absurd h h3)
       have e1 : (Y != 43) = true := by simpa using fun h => h3 (.inl h)
       have e2 : (Y != 45) = true := by simpa using fun h => h3 (.inr (.inl h))
       have e3 : (Y != 46) = true := by simpa using fun h => h3 (.inr (.inr h))
       clear hst hdg hdig h3
       go_wp2_with (first
        | (go_at_call 91; refine (HLE.out _).mono ?_; rintro e w4 ⟨rfl, hw⟩; subst hw)
        | (go_at_call 92; refine (HDA.out _).mono ?_; rintro e w5 ⟨rfl, rfl⟩)
        | fail)
       go_ret
       exact ⟨by rw [HSN.out, HST.out]; rfl, HW.out⟩
   ·obtain rfl : k = N := by omega
    have hdr : l.drop k = [] := List.drop_eq_nil_of_le (by have := HSZ.out; omega)
    have hd1 := hd.out
    rw [hdr] at hd1
    have HST := h_ (show true = R from hd1); clear hd1 hd
    go_wp2_with fail
    go_ret
    exact ⟨by rw [HSN.out, <- HST.out]; rfl, HW.out⟩

theorem beq_b2 (c : UInt8) (n : Nat) (h : n < 256) : (c == UInt8.ofNat n) = decide (b2 c = n) := by
 have e : b2 (UInt8.ofNat n) = n := by
  unfold b2
  rw [UInt8.toNat_ofNat']
  omega
 rw [Bool.eq_iff_iff, beq_iff_eq, decide_eq_true_eq]
 exact ⟨fun h => by rw [h, e], fun h => b2_inj (h.trans e.symm)⟩
theorem drive_two (a b : UInt8) : driveF [a, b] = (letF (b2 a) && (decide (b2 b = 58) || decide (b2 b = 124))) := by
 show (letF (b2 a) && (b == 58 || b == 124)) = _
 rw [show (b == 58) = decide (b2 b = 58) from beq_b2 b 58 (by decide), show (b == 124) = decide (b2 b = 124) from beq_b2 b 124 (by decide)]
theorem norm_two (a b : UInt8) : normF [a, b] = (letF (b2 a) && decide (b2 b = 58)) := by
 show (letF (b2 a) && b == 58) = _
 rw [show (b == 58) = decide (b2 b = 58) from beq_b2 b 58 (by decide)]
theorem two_of {l : Bytes} (h : l.length = 2) : ∃ a b, l = [a, b] := by
 match l, h with
 | [a, b], _ => exact ⟨a, b, rfl⟩
theorem drive_no {l : Bytes} (h : l.length ≠ 2) : driveF l = false ∧ normF l = false := by
 match l, h with
 | [], _ => exact ⟨rfl, rfl⟩
 | [_], _ => exact ⟨rfl, rfl⟩
 | [_, _], h => exact absurd rfl h
 | _ :: _ :: _ :: _, _ => exact ⟨rfl, rfl⟩
theorem drive_any (l : Bytes) (w : World) (hl : l.length <= 1024000000) : Calls Tryz.prog 97 #[.string (bs l)] w fun e w' => e = .returned (.bool (driveF l)) ∧ w' = w := by
 obtain ⟨s, hs⟩ := ex_ (bs l)
 have hsz : s.size = l.length := by rw [hs, bs_size]
 have hby : ∀ k (hk : k < s.size) (hk2 : k < l.length), ((s[k]'hk).toNat : Int) = b2 l[k] := fun k hk hk2 => str_at hs hk hk2
 rw [<- hs]
 clear hs
 by_cases h2 : l.length = 2
 ·obtain ⟨a, b, rfl⟩ := two_of h2
  have hsN : s.size = 2 := hsz
  have h0 : 0 < s.size := by omega
  have h1 : 1 < s.size := by omega
  have hx0 : ((s[0]'h0).toNat : Int) = b2 a := hby 0 h0 (Nat.succ_pos _)
  have hx1 : ((s[1]'h1).toNat : Int) = b2 b := hby 1 h1 (Nat.lt_succ_self 1)
  have hd := drive_two a b
  have HLE := h_ (fun W => letter_any (b2 a) W)
  generalize b2 a = X at *
  generalize b2 b = Y at *
  obtain ⟨R, hR⟩ := ex_ (driveF [a, b])
  rw [<- hR] at hd ⊢
  clear hby hsz h2 hR hl
  cases hq : letF X with
  | false =>
   rw [hq] at HLE hd
   have HD := h_ hd; clear hd
   go_enter Tryz.func97, Tryz.ntmps97
   go_wp2_with (first | (go_at_call 91; refine (HLE.out _).mono ?_; rintro e w2 ⟨rfl, hw⟩; subst hw) | fail)
   go_ret
   exact ⟨by rw [HD.out]; rfl, rfl⟩
  | true =>
   rw [hq] at HLE hd
   by_cases h58 : Y = 58
   ·have HD := h_ (show R = true by rw [hd]; simp [h58]); clear hd
    subst h58
    go_enter Tryz.func97, Tryz.ntmps97
    go_wp2_with (first | (go_at_call 91; refine (HLE.out _).mono ?_; rintro e w2 ⟨rfl, hw⟩; subst hw) | fail)
    go_ret
    exact ⟨by rw [HD.out]; rfl, rfl⟩
   ·have q58 : (Y == 58) = false := by simpa using h58
    by_cases h124 : Y = 124
    ·have HD := h_ (show R = true by rw [hd]; simp [h124]); clear hd
     subst h124
     go_enter Tryz.func97, Tryz.ntmps97
     go_wp2_with (first | (go_at_call 91; refine (HLE.out _).mono ?_; rintro e w2 ⟨rfl, hw⟩; subst hw) | fail)
     go_ret
     exact ⟨by rw [HD.out]; rfl, rfl⟩
    ·have q124 : (Y == 124) = false := by simpa using h124
     have HD := h_ (show R = false by rw [hd]; simp [h58, h124]); clear hd
     go_enter Tryz.func97, Tryz.ntmps97
     go_wp2_with (first | (go_at_call 91; refine (HLE.out _).mono ?_; rintro e w2 ⟨rfl, hw⟩; subst hw) | fail)
     go_ret
     exact ⟨by rw [HD.out]; rfl, rfl⟩
 ·have HD := h_ (drive_no h2).1
  obtain ⟨N, hN⟩ := ex_ (s.size)
  have hsN : s.size = N := hN.symm
  have hn : ((N : Int) == 2) = false := by
   have : (N : Int) ≠ 2 := by omega
   simpa using this
  clear hby h2 hsz hl hN
  go_enter Tryz.func97, Tryz.ntmps97
  go_wp2_with fail
  go_ret
  exact ⟨by rw [HD.out]; rfl, rfl⟩
theorem normal_any (l : Bytes) (w : World) (hl : l.length <= 1024000000) : Calls Tryz.prog 58 #[.string (bs l)] w fun e w' => e = .returned (.bool (normF l)) ∧ w' = w := by
 have hdr := fun W => drive_any l W hl
 obtain ⟨s, hs⟩ := ex_ (bs l)
 have hsz : s.size = l.length := by rw [hs, bs_size]
 have hby : ∀ k (hk : k < s.size) (hk2 : k < l.length), ((s[k]'hk).toNat : Int) = b2 l[k] := fun k hk hk2 => str_at hs hk hk2
 rw [<- hs] at hdr ⊢
 clear hs
 have HDR := h_ hdr; clear hdr
 by_cases h2 : l.length = 2
 ·obtain ⟨a, b, rfl⟩ := two_of h2
  have hsN : s.size = 2 := hsz
  have h1 : 1 < s.size := by omega
  have hx1 : ((s[1]'h1).toNat : Int) = b2 b := hby 1 h1 (Nat.lt_succ_self 1)
  have hd := drive_two a b
  have hn := norm_two a b
  rw [hd] at HDR
  generalize b2 a = X at *
  generalize b2 b = Y at *
  obtain ⟨R, hR⟩ := ex_ (normF [a, b])
  rw [<- hR] at hn ⊢
  clear hby hsz h2 hR hl hd
  generalize letF X = q at *
  by_cases h58 : Y = 58
  ·subst h58
   have HN := h_ (show R = q by rw [hn]; simp); clear hn
   cases q
   all_goals
    go_enter Tryz.func58, Tryz.ntmps58
    go_wp2_with (first | (go_at_call 97; refine (HDR.out _).mono ?_; rintro e w2 ⟨rfl, hw⟩; subst hw) | fail)
    go_ret
    exact ⟨by rw [HN.out]; rfl, rfl⟩
  ·have q58 : (Y == 58) = false := by simpa using h58
   have HN := h_ (show R = false by rw [hn]; simp [h58]); clear hn
   obtain ⟨r, hr⟩ := ex_ ((q && (decide (Y = 58) || decide (Y = 124))))
   rw [<- hr] at HDR
   clear hr h58
   cases r
   all_goals
    go_enter Tryz.func58, Tryz.ntmps58
    go_wp2_with (first | (go_at_call 97; refine (HDR.out _).mono ?_; rintro e w2 ⟨rfl, hw⟩; subst hw) | fail)
    go_ret
    exact ⟨by rw [HN.out]; rfl, rfl⟩
 ·rw [(drive_no h2).1] at HDR
  have HN := h_ (drive_no h2).2
  clear hby h2 hsz hl
  go_enter Tryz.func58, Tryz.ntmps58
  go_wp2_with (first | (go_at_call 97; refine (HDR.out _).mono ?_; rintro e w2 ⟨rfl, hw⟩; subst hw) | fail)
  go_ret
  exact ⟨by rw [HN.out]; rfl, rfl⟩

theorem starts_no {l : Bytes} (h : l.length < 2 ∨ driveF (l.take 2) = false) : startsF l = false := by
 match l, h with
 | [], _ => rfl
 | [_], _ => rfl
 | [a, b], h =>
  rcases h with h | h
  ·simp at h
  ·exact h
 | a :: b :: c :: r, h =>
  rcases h with h | h
  ·simp at h; omega
  ·show (driveF [a, b] && _) = false
   rw [show driveF [a, b] = false from h]; rfl
theorem starts_two {l : Bytes} (h : l.length = 2) (hd : driveF (l.take 2) = true) : startsF l = true := by
 obtain ⟨a, b, rfl⟩ := two_of h
 exact hd
theorem starts_more {l : Bytes} (h : 2 < l.length) (hd : driveF (l.take 2) = true) : startsF l = amF [47, 92, 63, 35] (b2 (l[2]'h)) := by
 match l, h, hd with
 | a :: b :: c :: r, _, hd =>
  show (driveF [a, b] && (c == 47 || c == 92 || c == 63 || c == 35)) = amF [47, 92, 63, 35] (b2 c)
  rw [show driveF [a, b] = true from hd, Bool.true_and]
  have key : ∀ k : Fin 256, (UInt8.ofNat k.val == 47 || UInt8.ofNat k.val == 92 || UInt8.ofNat k.val == 63 || UInt8.ofNat k.val == 35) = amF [47, 92, 63, 35] (b2 (UInt8.ofNat k.val)) := by decide +kernel
  have := key ⟨c.toNat, c.toNat_lt⟩
  simpa using this
theorem starts_any (l : Bytes) (w : World) (hl : l.length <= 1024000000) : Calls Tryz.prog 148 #[.string (bs l)] w fun e w' => e = .returned (.bool (startsF l)) ∧ w' = w := by
 have hdr := fun W => drive_any (l.take 2) W (by rw [List.length_take]; omega)
 obtain ⟨s, hs⟩ := ex_ (bs l)
 have hsz : s.size = l.length := by rw [hs, bs_size]
 have hby : ∀ k (hk : k < s.size) (hk2 : k < l.length), ((s[k]'hk).toNat : Int) = b2 l[k] := fun k hk hk2 => str_at hs hk hk2
 have hex : s.extract 0 2 = bs (l.take 2) := by rw [hs]; exact ext_to l 2
 rw [<- hs]
 clear hs
 obtain ⟨N, hN⟩ := ex_ (s.size)
 have hsN : s.size = N := hN.symm
 have hNl : N = l.length := by omega
 obtain ⟨t, ht⟩ := ex_ (bs (l.take 2))
 rw [<- ht] at hdr hex
 by_cases h2 : N < 2
 ·have HR := h_ (starts_no (l := l) (.inl (by omega)))
  clear hby hex hdr ht hN hsz hl hNl
  go_enter Tryz.func148, Tryz.ntmps148
  go_wp2_with fail
  go_ret
  exact ⟨by rw [HR.out]; rfl, rfl⟩
 ·have h2i : (2 : Int) <= N := by omega
  have HDR := h_ hdr; clear hdr
  cases hd : driveF (l.take 2) with
  | false =>
   rw [hd] at HDR
   have HR := h_ (starts_no (l := l) (.inr hd))
   clear hby ht hN hsz hl hNl hd
   go_enter Tryz.func148, Tryz.ntmps148
   go_wp2_with (first | (go_at_call 97; refine (HDR.out _).mono ?_; rintro e w2 ⟨rfl, hw⟩; subst hw) | fail)
   go_ret
   exact ⟨by rw [HR.out]; rfl, rfl⟩
  | true =>
   rw [hd] at HDR
   by_cases hq : N = 2
   ·have HR := h_ (starts_two (l := l) (by omega) hd)
    have hqb : ((N : Int) == 2) = true := by rw [hq]; rfl
    clear hby ht hN hsz hl hNl hd
    subst hq
    go_enter Tryz.func148, Tryz.ntmps148
    go_wp2_with (first | (go_at_call 97; refine (HDR.out _).mono ?_; rintro e w2 ⟨rfl, hw⟩; subst hw) | fail)
    go_ret
    exact ⟨by rw [HR.out]; rfl, rfl⟩
   ·have h3 : 2 < l.length := by omega
    have h3s : 2 < s.size := by omega
    have hx := hby 2 h3s h3
    have hr := starts_more h3 hd
    obtain ⟨x, hxx⟩ := ex_ (l[2])
    rw [<- hxx] at hx hr
    have hib := fun W => Any.strings_IndexByte Tryz.laysIB ⟨#[47, 92, 63, 35]⟩ (b2 x) W
    rw [show (⟨#[47, 92, 63, 35]⟩ : ByteArray).data.toList = [47, 92, 63, 35] from rfl, show (b2 x).toNat.toUInt8 = x by simp [b2]] at hib
    have hib2 : ∀ W, Calls Tryz.prog 110 #[.string ⟨#[47, 92, 63, 35]⟩, .int .u8 (b2 x)] W fun e w' => e = .returned (.int .i64 (Lib.indexByte [47, 92, 63, 35] x)) ∧ w' = W := hib
    have hi := index_am [47, 92, 63, 35] x
    generalize Lib.indexByte [47, 92, 63, 35] x = I at hib2 hi
    rw [<- hr] at hi
    generalize startsF l = R at hi ⊢
    generalize b2 x = X at *
    have HIB := h_ hib2
    have hqb : ((N : Int) == 2) = false := by
     have : (N : Int) ≠ 2 := by omega
     simpa using this
    have h3i : (2 : Int) < N := by omega
    have h3n : 2 < N := by omega
    clear hby ht hN hsz hl hNl hd hib hib2 hr hxx
    cases R with
    | true =>
     have hI : 0 <= I := hi.mpr rfl
     clear hi
     go_enter Tryz.func148, Tryz.ntmps148
     go_wp2_with (first
      | (go_at_call 97; refine (HDR.out _).mono ?_; rintro e w2 ⟨rfl, hw⟩; subst hw)
      | (go_at_call 110; refine (HIB.out _).mono ?_; rintro e w3 ⟨rfl, hw⟩; subst hw)
      | fail)
     go_ret
     exact ⟨ret1_bool (by simp), rfl⟩
    | false =>
     have hI : ¬ 0 <= I := fun h => by have := hi.mp h; cases this
     clear hi
     go_enter Tryz.func148, Tryz.ntmps148
     go_wp2_with (first
      | (go_at_call 97; refine (HDR.out _).mono ?_; rintro e w2 ⟨rfl, hw⟩; subst hw)
      | (go_at_call 110; refine (HIB.out _).mono ?_; rintro e w3 ⟨rfl, hw⟩; subst hw)
      | fail)
     go_ret
     exact ⟨ret1_bool (by simp; omega), rfl⟩
theorem low_key : ∀ k : Fin 256, (lowB (UInt8.ofNat k.val) = 37 ↔ UInt8.ofNat k.val = 37) ∧ (lowB (UInt8.ofNat k.val) = 50 ↔ UInt8.ofNat k.val = 50) ∧ (lowB (UInt8.ofNat k.val) = 101 ↔ (UInt8.ofNat k.val = 101 ∨ UInt8.ofNat k.val = 69)) := by decide +kernel
theorem low_k (c : UInt8) : (lowB c = 37 ↔ c = 37) ∧ (lowB c = 50 ↔ c = 50) ∧ (lowB c = 101 ↔ (c = 101 ∨ c = 69)) := by
 have := low_key ⟨c.toNat, c.toNat_lt⟩
 simpa using this
theorem beh_is (l : Bytes) : behF l = if l.head? = some 46 then some (l.drop 1) else if 3 <= l.length ∧ (l.take 3).map lowB = [37, 50, 101] then some (l.drop 3) else none := by
 match l with
 | [] => rfl
 | c :: t =>
  by_cases h46 : c = 46
  ·subst h46
   rw [beh_46, if_pos (by rfl)]
   rfl
  ·rw [if_neg (by simpa using h46)]
   match t with
   | [] =>
    rw [if_neg (by simp)]
    unfold behF
    dsimp only
    rw [if_neg h46]
    split
    ·next h => cases h
    ·rfl
   | [x] =>
    rw [if_neg (by simp)]
    unfold behF
    dsimp only
    rw [if_neg h46]
    split
    ·next h => cases h
    ·rfl
   | x :: y :: r =>
    have e : ((c :: x :: y :: r).take 3).map lowB = [lowB c, lowB x, lowB y] := rfl
    rw [e]
    obtain ⟨k1, _, _⟩ := low_k c
    obtain ⟨_, k2, _⟩ := low_k x
    obtain ⟨_, _, k3⟩ := low_k y
    by_cases h37 : c = 37
    ·by_cases h50 : x = 50
     ·subst h37; subst h50
      rw [beh_hex]
      by_cases hy : y = 101 ∨ y = 69
      ·rw [if_pos hy, if_pos ⟨by simp, by rw [k1.mpr rfl, k2.mpr rfl, k3.mpr hy]⟩]
       rfl
      ·rw [if_neg hy, if_neg (fun h => hy (k3.mp (by injection h.2 with _ h; injection h with _ h; injection h)))]
     ·subst h37
      rw [beh_no50 h50, if_neg (fun h => h50 (k2.mp (by injection h.2 with _ h; injection h)))]
    ·rw [beh_other h46 h37, if_neg (fun h => h37 (k1.mp (by injection h.2)))]
theorem beh_any (l : Bytes) (w : World) (hl : l.length <= 1024000000) : Calls Tryz.prog 57 #[.string (bs l)] w fun e w' => e = .returned (.tuple #[S ((behF l).getD []), .bool (behF l).isSome]) ∧ Below w.heap.size w w' := by
 have hhp := fun W => hp_any l [46] W
 rw [show bs [46] = ⟨#[46]⟩ from rfl] at hhp
 have hp46 : Lib.hasPrefix l [46] = decide (l.head? = some 46) := by
  cases l with
  | nil => rfl
  | cons x r =>
   show ((46 == x) && true) = _
   rw [Bool.and_true, Bool.eq_iff_iff]
   simp only [beq_iff_eq, List.head?_cons, Option.some.injEq, decide_eq_true_eq]
   exact eq_comm
 rw [hp46] at hhp
 have hlow := fun W => lower_any (l.take 3) W (by unfold maxLen; rw [List.length_take]; omega)
 have hbi := beh_is l
 obtain ⟨R, hR⟩ := ex_ (behF l)
 rw [<- hR] at hbi ⊢
 obtain ⟨s, hs⟩ := ex_ (bs l)
 have hsz : s.size = l.length := by rw [hs, bs_size]
 have hex3 : s.extract 0 3 = bs (l.take 3) := by rw [hs]; exact ext_to l 3
 have hd1 : s.extract 1 s.size = bs (l.drop 1) := by rw [hs]; exact ext_all l 1 _ (bs_size l)
 have hd3 : s.extract 3 s.size = bs (l.drop 3) := by rw [hs]; exact ext_all l 3 _ (bs_size l)
 rw [<- hs] at hhp ⊢
 clear hs hp46 hR
 obtain ⟨N, hN⟩ := ex_ (s.size)
 have hsN : s.size = N := hN.symm
 rw [hsN] at hd1 hd3
 have hNl : N = l.length := by omega
 obtain ⟨t, ht⟩ := ex_ (bs (l.take 3))
 rw [<- ht] at hex3 hlow
 have hne : l.head? = some 46 -> 1 <= N := fun h => by
  cases l with
  | nil => cases h
  | cons c r => rw [hNl]; simp
 rw [<- hNl] at hbi
 generalize (l.take 3).map lowB = m at hbi hlow
 generalize l.drop 1 = d1 at hbi hd1
 generalize l.drop 3 = d3 at hbi hd3
 obtain ⟨q, hq⟩ : ∃ q : Prop, q = (l.head? = some 46) := ⟨_, rfl⟩
 rw [<- hq] at hne
 have HHP := h_ hhp
 have HLW := h_ (show ∀ W, Calls Tryz.prog 50 #[.string t] W fun e w' => e = .returned (S m) ∧ Below W.heap.size W w' from hlow)
 by_cases h46 : l.head? = some 46
 ·rw [if_pos h46] at hbi
  rw [decide_eq_true h46] at HHP
  have hN1 : 1 <= N := hne (hq ▸ h46)
  have hN1i : (1 : Int) <= N := by omega
  have HR := h_ hbi
  clear hhp hbi hlow ht hN hsz hl hNl hq hne h46 hex3 hd3
  go_enter Tryz.func57, Tryz.ntmps57
  go_wp2_with (first | (go_at_call 84; refine (HHP.out _).mono ?_; rintro e w2 ⟨rfl, hw⟩; subst hw) | fail)
  go_ret2
  exact ⟨by rw [HR.out]; rfl, bz_refl _⟩
 ·rw [if_neg h46] at hbi
  rw [decide_eq_false h46] at HHP
  clear hhp hlow ht hN hsz hl hNl hq hne h46 hd1
  by_cases h3 : 3 <= N
  ·have h3i : (3 : Int) <= N := by omega
   have he := sEq m [37, 50, 101]
   by_cases hm : m = [37, 50, 101]
   ·rw [if_pos ⟨h3, hm⟩] at hbi
    rw [decide_eq_true hm] at he
    have HR := h_ hbi
    clear hbi hm
    rw [toList_bs, toList_bs] at he
    have he2 : ((bs m).toList == [37, 50, 101]) = true := by rw [toList_bs]; exact he
    obtain ⟨z, hz⟩ := ex_ (bs m)
    rw [<- hz] at he2
    replace HLW := h_ (show ∀ W, Calls Tryz.prog 50 #[.string t] W fun e w' => e = .returned (.string z) ∧ Below W.heap.size W w' from by rw [hz]; exact HLW.out)
    clear hz he
    go_enter Tryz.func57, Tryz.ntmps57
    go_wp2_with (first
     | (go_at_call 84; refine (HHP.out _).mono ?_; rintro e w2 ⟨rfl, hw⟩; subst hw)
     | (go_at_call 50; refine (HLW.out _).mono ?_; rintro e w3 ⟨rfl, hb⟩; have HB := h_ hb; clear hb)
     | fail)
    go_ret2
    exact ⟨by rw [HR.out]; rfl, HB.out⟩
   ·rw [if_neg (fun h => hm h.2)] at hbi
    rw [decide_eq_false hm] at he
    have HR := h_ hbi
    clear hbi hm
    rw [toList_bs, toList_bs] at he
    have he2 : ((bs m).toList == [37, 50, 101]) = false := by rw [toList_bs]; exact he
    obtain ⟨z, hz⟩ := ex_ (bs m)
    rw [<- hz] at he2
    replace HLW := h_ (show ∀ W, Calls Tryz.prog 50 #[.string t] W fun e w' => e = .returned (.string z) ∧ Below W.heap.size W w' from by rw [hz]; exact HLW.out)
    clear hz he
    go_enter Tryz.func57, Tryz.ntmps57
    go_wp2_with (first
     | (go_at_call 84; refine (HHP.out _).mono ?_; rintro e w2 ⟨rfl, hw⟩; subst hw)
     | (go_at_call 50; refine (HLW.out _).mono ?_; rintro e w3 ⟨rfl, hb⟩; have HB := h_ hb; clear hb)
     | fail)
    go_ret2
    exact ⟨by rw [HR.out]; rfl, HB.out⟩
  ·rw [if_neg (fun h => h3 h.1)] at hbi
   have HR := h_ hbi
   clear hbi
   go_enter Tryz.func57, Tryz.ntmps57
   go_wp2_with (first
    | (go_at_call 84; refine (HHP.out _).mono ?_; rintro e w2 ⟨rfl, hw⟩; subst hw)
    | fail)
   go_ret2
   exact ⟨by rw [HR.out]; rfl, bz_refl _⟩
theorem dot_any (l : Bytes) (w : World) (hl : l.length <= 1024000000) : Calls Tryz.prog 23 #[.string (bs l)] w fun e w' => e = .returned (.bool (isDot l)) ∧ Below w.heap.size w w' := by
 have hb := fun W => beh_any l W hl
 obtain ⟨R, hR⟩ := ex_ (isDot l)
 rw [<- hR]
 unfold isDot at hR
 generalize bs l = s at *
 generalize behF l = b at *
 cases b with
 | none =>
  have HB := h_ (show ∀ W, Calls Tryz.prog 57 #[.string s] W fun e w' => e = .returned (.tuple #[.string ⟨#[]⟩, .bool false]) ∧ Below W.heap.size W w' from hb)
  have HR := h_ (show R = false from hR)
  clear hb hR
  go_enter Tryz.func23, Tryz.ntmps23
  go_wp2_with (first | (go_at_call 57; refine (HB.out _).mono ?_; rintro e w2 ⟨rfl, hb⟩; have HW := h_ hb; clear hb) | fail)
  go_ret
  exact ⟨by rw [HR.out]; rfl, HW.out⟩
 | some r =>
  obtain ⟨z, hz⟩ := ex_ (bs r)
  have HB := h_ (show ∀ W, Calls Tryz.prog 57 #[.string s] W fun e w' => e = .returned (.tuple #[.string z, .bool true]) ∧ Below W.heap.size W w' from by rw [hz]; exact hb)
  have hze : z.toList = [] ↔ r = [] := by rw [hz, toList_bs]
  have hRr : R = decide (r = []) := by
   rw [hR, Bool.eq_iff_iff, decide_eq_true_eq]
   simp
  clear hb hR hz
  by_cases hn : r = []
  ·have he := hze.mpr hn
   have he1 : z.toList.isEmpty = true := by rw [he]; rfl
   have HR := h_ (show R = true by rw [hRr, decide_eq_true hn])
   clear hze hRr hn
   go_enter Tryz.func23, Tryz.ntmps23
   go_wp2_with (first | (go_at_call 57; refine (HB.out _).mono ?_; rintro e w2 ⟨rfl, hb⟩; have HW := h_ hb; clear hb) | fail)
   go_ret
   exact ⟨by rw [HR.out]; rfl, HW.out⟩
  ·have he : ¬ z.toList = [] := fun h => hn (hze.mp h)
   have he1 : z.toList.isEmpty = false := by simpa using he
   have HR := h_ (show R = false by rw [hRr, decide_eq_false hn])
   clear hze hRr hn
   go_enter Tryz.func23, Tryz.ntmps23
   go_wp2_with (first | (go_at_call 57; refine (HB.out _).mono ?_; rintro e w2 ⟨rfl, hb⟩; have HW := h_ hb; clear hb) | fail)
   go_ret
   exact ⟨by rw [HR.out]; rfl, HW.out⟩
theorem beh_len {l r : Bytes} (h : behF l = some r) : r.length <= l.length := by
 rw [beh_is] at h
 split at h
 ·injection h with h
  rw [<- h, List.length_drop]; omega
 ·split at h
  ·injection h with h
   rw [<- h, List.length_drop]; omega
  ·cases h
theorem dots_any (l : Bytes) (w : World) (hl : l.length <= 1024000000) : Calls Tryz.prog 24 #[.string (bs l)] w fun e w' => e = .returned (.bool (isDots l)) ∧ Below w.heap.size w w' := by
 have hb := fun W => beh_any l W hl
 have hln := fun r (h : behF l = some r) => beh_len h
 obtain ⟨R, hR⟩ := ex_ (isDots l)
 rw [<- hR]
 unfold isDots at hR
 generalize bs l = s at *
 generalize behF l = b at *
 cases b with
 | none =>
  have HB := h_ (show ∀ W, Calls Tryz.prog 57 #[.string s] W fun e w' => e = .returned (.tuple #[.string ⟨#[]⟩, .bool false]) ∧ Below W.heap.size W w' from hb)
  have HR := h_ (show R = false from hR)
  clear hb hR hln
  go_enter Tryz.func24, Tryz.ntmps24
  go_wp2_with (first | (go_at_call 57; refine (HB.out _).mono ?_; rintro e w2 ⟨rfl, hb⟩; have HW := h_ hb; clear hb) | fail)
  go_ret
  exact ⟨by rw [HR.out]; rfl, HW.out⟩
 | some r =>
  have hdo := fun W => dot_any r W (by have := hln r rfl; omega)
  obtain ⟨z, hz⟩ := ex_ (bs r)
  have HB := h_ (show ∀ W, Calls Tryz.prog 57 #[.string s] W fun e w' => e = .returned (.tuple #[.string z, .bool true]) ∧ Below W.heap.size W w' from by rw [hz]; exact hb)
  rw [<- hz] at hdo
  have HD := h_ hdo
  have HR := h_ (show R = isDot r from hR)
  clear hb hR hz hdo hln
  generalize isDot r = q at HD HR
  go_enter Tryz.func24, Tryz.ntmps24
  go_wp2_with (first
   | (go_at_call 57; refine (HB.out _).mono ?_; rintro e w2 ⟨rfl, hb⟩; have HW := h_ hb; clear hb)
   | (go_at_call 23; refine (HD.out _).mono ?_; rintro e w3 ⟨rfl, hb⟩; have HW3 := h_ (stp HW.out hb); clear hb)
   | fail)
  go_ret
  exact ⟨by rw [HR.out]; rfl, HW3.out⟩

theorem sl_at {sp : Bool} {l : Bytes} {k : Nat} (h : k < l.length) : slN sp (l.drop k) = if slP sp l[k] = true then 1 + slN sp (l.drop (k + 1)) else 0 := by
 unfold slN
 rw [List.drop_eq_getElem_cons h]
 cases hp : slP sp l[k] with
 | true => rw [List.takeWhile_cons_of_pos hp, if_pos rfl, List.length_cons]; omega
 | false => rw [List.takeWhile_cons_of_neg (by simp [hp]), if_neg (by simp)]; rfl
theorem slN_le (sp : Bool) (l : Bytes) : slN sp l <= l.length := (List.takeWhile_sublist _).length_le
theorem slashes_any (sch l : Bytes) (w : World) (hl : l.length <= 1024000000) : Calls Tryz.prog 146 #[.string (bs sch), .string (bs l)] w fun e w' => e = .returned (.int .i64 (slN (spF sch) l)) ∧ w' = w := by
 have hsp := fun W => special_any sch W
 generalize spF sch = sp at *
 generalize bs sch = c at *
 have HSP := h_ hsp; clear hsp
 obtain ⟨R, hR⟩ := ex_ (slN sp l)
 rw [<- hR]
 have HR := h_ hR; clear hR
 obtain ⟨s, hs⟩ := ex_ (bs l)
 have hsz : s.size = l.length := by rw [hs, bs_size]
 have hby : ∀ k (hk : k < s.size) (hk2 : k < l.length), ((s[k]'hk).toNat : Int) = b2 l[k] := fun k hk hk2 => str_at hs hk hk2
 rw [<- hs]
 clear hs
 obtain ⟨N, hN⟩ := ex_ (s.size)
 have hsN : s.size = N := hN.symm
 have hNm : N <= 1024000000 := by omega
 have HBY := h_ hby; clear hby
 have HSZ := h_ hsz; clear hsz hl hN
 go_enter Tryz.func146, Tryz.ntmps146
 go_wp2_with (first | (go_at_call 22; refine (HSP.out _).mono ?_; rintro e w2 ⟨rfl, hw⟩; subst hw) | fail)
 obtain ⟨w3, hw3⟩ := ex_ (w2)
 have HW := h_ hw3
 rw [<- hw3]
 clear hw3
 go_loopw [6] (fun iv wr => ∃ k : Nat, k <= N ∧ iv = .int .i64 k ∧ Hid (k + slN sp (l.drop k) = R) ∧ w3 = wr) (fun i _ => N - (intOf i).toNat)
 case atStart => exact ⟨0, by omega, by simp, (by rw [HR.out]; show 0 + slN sp (List.drop 0 l) = _; simp), rfl⟩
 case round =>
  obtain ⟨k, hk, rfl, hd, rfl⟩ := hrel
  by_cases hlt : k < N
  ·have hku : k < s.size := by omega
   have hkl : k < l.length := by have := HSZ.out; omega
   have hx := HBY.out k hku hkl
   have hst := sl_at (sp := sp) hkl
   rw [slP_b] at hst
   have hd1 := hd.out
   obtain ⟨T, hT⟩ := ex_ (slN sp (l.drop (k + 1)))
   rw [<- hT] at hst
   have HT := h_ hT; clear hT
   obtain ⟨X, hX⟩ := ex_ (b2 l[k])
   rw [<- hX] at hx hst
   clear hX hd
   by_cases h47 : X = 47
   ·subst h47
    have HN := h_ (show k + 1 + T = R by rw [if_pos (by simp)] at hst; omega)
    clear hst hd1
    go_wp2_with fail
    go_roundw
    case rel => exact ⟨k + 1, by omega, by simp, (by rw [<- HT.out]; exact HN.out), by trivial⟩
    case measure => simp [intOf]; omega
   ·have q47 : (X == 47) = false := by simpa using h47
    cases sp with
    | false =>
     have HN := h_ (show k = R by rw [if_neg (by simp [h47])] at hst; omega)
     clear hst hd1
     go_wp2_with fail
     go_ret
     exact ⟨by rw [<- HN.out]; rfl, HW.out⟩
    | true =>
     by_cases h92 : X = 92
     ·subst h92
      have HN := h_ (show k + 1 + T = R by rw [if_pos (by simp)] at hst; omega)
      clear hst hd1
      go_wp2_with fail
      go_roundw
      case rel => exact ⟨k + 1, by omega, by simp, (by rw [<- HT.out]; exact HN.out), by trivial⟩
      case measure => simp [intOf]; omega
     ·have q92 : (X == 92) = false := by simpa using h92
      have HN := h_ (show k = R by rw [if_neg (by simp [h47, h92])] at hst; omega)
      clear hst hd1
      go_wp2_with fail
      go_ret
      exact ⟨by rw [<- HN.out]; rfl, HW.out⟩
  ·obtain rfl : k = N := by omega
   have hdr : l.drop k = [] := List.drop_eq_nil_of_le (by have := HSZ.out; omega)
   have hd1 := hd.out
   rw [hdr] at hd1
   have HN := h_ (show k = R from hd1); clear hd1 hd
   go_wp2_with fail
   go_ret
   exact ⟨by rw [<- HN.out]; rfl, HW.out⟩
theorem unslashed_any (sch l : Bytes) (w : World) (hl : l.length <= 1024000000) : Calls Tryz.prog 122 #[.string (bs sch), .string (bs l)] w fun e w' => e = .returned (S (l.drop (slN (spF sch) l))) ∧ w' = w := by
 have hsl := fun W => slashes_any sch l W hl
 have hle := slN_le (spF sch) l
 generalize slN (spF sch) l = k at *
 generalize bs sch = c at *
 obtain ⟨s, hs⟩ := ex_ (bs l)
 have hsz : s.size = l.length := by rw [hs, bs_size]
 have hex : s.extract k s.size = bs (l.drop k) := by rw [hs]; exact ext_all l k _ (bs_size l)
 rw [<- hs] at hsl ⊢
 clear hs
 obtain ⟨N, hN⟩ := ex_ (s.size)
 have hsN : s.size = N := hN.symm
 rw [hsN] at hex
 obtain ⟨t, ht⟩ := ex_ (bs (l.drop k))
 rw [<- ht] at hex
 have HT := h_ ht
 have HSL := h_ hsl
 have hki : (k : Int) <= N := by omega
 have hkn : k <= N := by omega
 clear hsl hsz hl hle hN ht
 go_enter Tryz.func122, Tryz.ntmps122
 go_wp2_with (first | (go_at_call 146; refine (HSL.out _).mono ?_; rintro e w2 ⟨rfl, hw⟩; subst hw) | fail)
 go_ret
 exact ⟨by rw [HT.out]; rfl, rfl⟩
theorem segs_cut {sp : Bool} {p : Bytes} (h : ∀ y ∈ p, slP sp y = false) {c : UInt8} (hc : slP sp c = true) (t : Bytes) : segs sp (p ++ c :: t) = p :: segs sp t := by
 induction p with
 | nil => rw [List.nil_append, segs, if_pos hc]
 | cons x r ih =>
  rw [List.cons_append, segs, if_neg (by rw [h x (by simp)]; simp), ih (fun y hy => h y (by simp [hy]))]
theorem segs_len (sp : Bool) : ∀ l : Bytes, (segs sp l).length <= l.length + 1
 | [] => by simp [segs]
 | c :: t => by
  have := segs_len sp t
  rw [segs]
  split
  ·simp; omega
  ·split
   ·simp
   ·next h => rw [h] at this; simp at this ⊢; omega
theorem mid_mem {l : Bytes} {f k : Nat} {y : UInt8} (h : y ∈ (l.drop f).take (k - f)) : ∃ j, ∃ hj : j < l.length, f <= j ∧ j < k ∧ l[j] = y := by
 obtain ⟨i, hi, he⟩ := List.getElem_of_mem h
 rw [List.length_take, List.length_drop] at hi
 rw [List.getElem_take, List.getElem_drop] at he
 exact ⟨f + i, by omega, by omega, by omega, he⟩
theorem ssplit_any (l : Bytes) (sp : Bool) (w : World) (hl : l.length <= 1024000000) : Calls Tryz.prog 182 #[.string (bs l), .bool sp] w (RetRow w 9 (Strs (segs sp l))) := by
 obtain ⟨i1, hi1, hz1, hz2, hz3⟩ := info_parts str_info
 obtain ⟨T, hT⟩ := ex_ (segs sp l)
 rw [<- hT]
 have HT := h_ hT; clear hT
 obtain ⟨s, hs⟩ := ex_ (bs l)
 have hsz : s.size = l.length := by rw [hs, bs_size]
 have hby : ∀ k (hk : k < s.size) (hk2 : k < l.length), ((s[k]'hk).toNat : Int) = b2 l[k] := fun k hk hk2 => str_at hs hk hk2
 have hex : ∀ f k, s.extract f k = bs ((l.drop f).take (k - f)) := fun f k => by rw [hs, bs_extract]
 rw [<- hs]
 clear hs
 obtain ⟨N, hN⟩ := ex_ (s.size)
 have hsN : s.size = N := hN.symm
 have hNm : N <= 1024000000 := by omega
 have HBY := h_ hby; clear hby
 have HEX := h_ hex; clear hex
 have HSZ := h_ hsz; clear hsz hl hN
 go_enter Tryz.func182, Tryz.ntmps182
 go_wp2_with fail
 go_loopw [5, 6, 7] (fun ov fv iv wr => ∃ (k f : Nat) (o : List Bytes), k <= N ∧ f <= k ∧ o.length <= k ∧ iv = .int .i64 k ∧ fv = .int .i64 f ∧ Hid (wr.ownsRow w.heap.size 9 1 ov o.length (Strs o)) ∧ Hid (o ++ segs sp (l.drop f) = T ∧ ∀ j (hj : j < l.length), f <= j -> j < k -> slP sp l[j] = false) ∧ Hid (Below w.heap.size w wr)) (fun _ _ i _ => N - (intOf i).toNat)
 case atStart => exact ⟨0, 0, [], by omega, by omega, by simp, by simp, by simp, World.ownsRow_nil _ _ _ _, ⟨by rw [HT.out]; rfl, fun j _ _ h => absurd h (Nat.not_lt_zero j)⟩, Below.refl _ _⟩
 case round =>
  obtain ⟨k, f, o, hk, hfk, hol, rfl, rfl, HO, hinv, HB⟩ := hrel
  have hwz : w.heap.size <= wr.heap.size := HB.out.size
  obtain ⟨al, hal⟩ := ex_ (o.length)
  have ho := HO.out
  rw [<- hal] at ho hol
  have HO2 := h_ ho; clear ho HO
  have HAL := h_ hal; clear hal
  by_cases hlt : k < N
  ·have hku : k < s.size := by omega
   have hkl : k < l.length := by have := HSZ.out; omega
   have hx := HBY.out k hku hkl
   obtain ⟨hi1', hi2'⟩ := hinv.out
   have hb := @slP_b sp l[k]
   have hmiss : slP sp l[k] = false -> (o ++ segs sp (l.drop f) = T ∧ ∀ j (hj : j < l.length), f <= j -> j < k + 1 -> slP sp l[j] = false) := fun h => ⟨hi1', fun j hj h1 h2 => by
    rcases Nat.lt_or_ge j k with h3 | h3
    ·exact hi2' j hj h1 h3
    ·obtain rfl : j = k := by omega
     exact h⟩
   obtain ⟨p, hp⟩ := ex_ ((l.drop f).take (k - f))
   have hhit : slP sp l[k] = true -> ((o ++ [p]) ++ segs sp (l.drop (k + 1)) = T ∧ ∀ j (hj : j < l.length), k + 1 <= j -> j < k + 1 -> slP sp l[j] = false) := fun h => by
    refine ⟨?_, fun j _ h1 h2 => by omega⟩
    have e : l.drop f = p ++ l[k] :: l.drop (k + 1) := by
     rw [hp, <- List.drop_eq_getElem_cons hkl]
     have : l.drop k = (l.drop f).drop (k - f) := by rw [List.drop_drop]; congr 1; omega
     rw [this, List.take_append_drop]
    have hs := segs_cut (sp := sp) (p := p) (fun y hy => by
     rw [hp] at hy
     obtain ⟨j, hj, h1, h2, rfl⟩ := mid_mem hy
     exact hi2' j hj h1 h2) h (l.drop (k + 1))
    rw [<- e] at hs
    rw [<- hi1', hs]
    simp
   have hexp := HEX.out f k
   rw [<- hp] at hexp
   have hsn := strs_snoc o p
   obtain ⟨u, hu⟩ := ex_ (bs p)
   rw [<- hu] at hexp hsn
   rw [hb] at hmiss hhit
   obtain ⟨X, hX⟩ := ex_ (b2 l[k])
   rw [<- hX] at hx hmiss hhit
   have HMISS := h_ hmiss
   have HHIT := h_ hhit
   have HSN := h_ hsn
   have hfs : f <= s.size := by omega
   have hfki : (f : Int) <= k := by omega
   have hkNi : (k : Int) <= N := by omega
   have hw1 : IntKind.i64.wrap ((k : Int) + 1) = ((k + 1 : Nat) : Int) := by rw [show (k : Int) + 1 = ((k + 1 : Nat) : Int) by omega]; exact IntWalk.i64_in _ (by omega)
   obtain ⟨K, hK⟩ := ex_ (k + 1)
   rw [<- hK] at hw1
   have HK := h_ hK
   clear hinv hi1' hi2' hb hmiss hhit hp hsn hu hX hK
   by_cases h47 : X = 47
   ·subst h47
    have HS := h_ (HHIT.out (by simp)); clear HMISS HHIT
    go_wp2_with (first | (at_builtin; (refine push1 rfl (.tmp 27) (.tmp 32) _ rfl w.heap.size 9 i1 (.string ⟨#[]⟩) 16 Tryz.underlying28 hi1 hz1 hz2 hz3 (by decide) _ _ _ (Strs o) rfl HO2.out (.string u) rfl rfl (by omega) (by decide) (by omega) ?_); intro v2 w2 hown2 hw2 hb2; have HOA := h_ hown2; clear hown2; have HB2 := h_ hb2; clear hb2) | fail)
    go_roundw
    case rel =>
     have hke := HK.out
     subst hke
     refine ⟨k + 1, k + 1, o ++ [p], by omega, by omega, by rw [List.length_append, <- HAL.out]; simp; omega, by rfl, by rfl, ?_, HS.out, HB.out.trans HB2.out⟩
     show World.ownsRow _ _ _ _ _ _ _
     rw [HSN.out, List.length_append, <- HAL.out]
     exact HOA.out
    case measure => have := HK.out; simp [intOf]; omega
   ·have q47 : (X == 47) = false := by simpa using h47
    cases sp with
    | false =>
     have HS := h_ (HMISS.out (by simp [h47])); clear HMISS HHIT
     go_wp2_with fail
     go_roundw
     case rel =>
      have hke := HK.out
      subst hke
      exact ⟨k + 1, f, o, by omega, by omega, by rw [<- HAL.out]; omega, by rfl, by rfl, by rw [<- HAL.out]; exact HO2.out, HS.out, HB.out⟩
     case measure => have := HK.out; simp [intOf]; omega
    | true =>
     by_cases h92 : X = 92
     ·subst h92
      have HS := h_ (HHIT.out (by simp)); clear HMISS HHIT
      go_wp2_with (first | (at_builtin; (refine push1 rfl (.tmp 27) (.tmp 32) _ rfl w.heap.size 9 i1 (.string ⟨#[]⟩) 16 Tryz.underlying28 hi1 hz1 hz2 hz3 (by decide) _ _ _ (Strs o) rfl HO2.out (.string u) rfl rfl (by omega) (by decide) (by omega) ?_); intro v2 w2 hown2 hw2 hb2; have HOA := h_ hown2; clear hown2; have HB2 := h_ hb2; clear hb2) | fail)
      go_roundw
      case rel =>
       have hke := HK.out
       subst hke
       refine ⟨k + 1, k + 1, o ++ [p], by omega, by omega, by rw [List.length_append, <- HAL.out]; simp; omega, by rfl, by rfl, ?_, HS.out, HB.out.trans HB2.out⟩
       show World.ownsRow _ _ _ _ _ _ _
       rw [HSN.out, List.length_append, <- HAL.out]
       exact HOA.out
      case measure => have := HK.out; simp [intOf]; omega
     ·have q92 : (X == 92) = false := by simpa using h92
      have HS := h_ (HMISS.out (by simp [h47, h92])); clear HMISS HHIT
      go_wp2_with fail
      go_roundw
      case rel =>
       have hke := HK.out
       subst hke
       exact ⟨k + 1, f, o, by omega, by omega, by rw [<- HAL.out]; omega, by rfl, by rfl, by rw [<- HAL.out]; exact HO2.out, HS.out, HB.out⟩
      case measure => have := HK.out; simp [intOf]; omega
  ·obtain rfl : k = N := by omega
   have hex := HEX.out f k
   have hln : (l.drop f).take (k - f) = l.drop f := List.take_of_length_le (by rw [List.length_drop]; have := HSZ.out; omega)
   rw [hln] at hex
   obtain ⟨h1, h2⟩ := hinv.out
   have hpc : segs sp (l.drop f) = [l.drop f] := segs_piece (fun y hy => by
    have hy2 : y ∈ (l.drop f).take (k - f) := by rw [hln]; exact hy
    obtain ⟨j, hj, h3, h4, rfl⟩ := mid_mem hy2
    exact h2 j hj h3 h4)
   rw [hpc] at h1
   have hsn := strs_snoc o (l.drop f)
   rw [h1] at hsn
   obtain ⟨u, hu⟩ := ex_ (bs (l.drop f))
   rw [<- hu] at hex hsn
   have HSN := h_ hsn
   have HTL := h_ (show T.length = al + 1 by rw [<- h1, List.length_append, <- HAL.out]; rfl)
   have hfs : f <= s.size := by omega
   have hfki : (f : Int) <= k := by omega
   clear hinv h1 h2 hpc hsn hu hln HAL
   go_wp2_with (first | (at_builtin; (refine push1 rfl (.tmp 36) (.tmp 40) _ rfl w.heap.size 9 i1 (.string ⟨#[]⟩) 16 Tryz.underlying28 hi1 hz1 hz2 hz3 (by decide) _ _ _ (Strs o) rfl HO2.out (.string u) rfl rfl (by omega) (by decide) (by omega) ?_); intro v2 w2 hown2 hw2 hb2; have HOA := h_ hown2; clear hown2; have HB2 := h_ hb2; clear hb2) | fail)
   go_ret
   refine ⟨_, rfl, ?_, HB.out.trans HB2.out⟩
   rw [List.length_map, HTL.out, HSN.out]
   exact HOA.out

def P0 : Prt := ⟨false, [], [], false, [], false, []⟩
abbrev pCells (p : Prt) : Array Value := #[.bool p.hasS, S p.sch, S p.rest, .bool p.hasQ, S p.q, .bool p.hasF, S p.f]
theorem p_info : (Tryz.prog.info? 35).map (·.size) = some 7 := by kernel_rfl
theorem allP (w : World) : (Instr.alloc 35 true (Value.tuple #[])).run Tryz.prog w = .ok (.pointer (some ⟨w.heap.size, 0, none⟩)) (w.alloc (.cells (pCells P0) 35)) := by kernel_rfl
theorem p_one {p : Prt} : ∀ v ∈ (pCells p).toList, v.oneCell' = true := by
 intro v hv
 simp only [List.mem_cons, List.not_mem_nil, or_false] at hv
 rcases hv with e | e | e | e | e | e | e <;> (rw [e]; rfl)
theorem p_res {tmps : Array Value} {w w2 : World} {b : Nat} {p : Prt} (h2 : tmps.getD 2 undef = .pointer (some ⟨b, 0, none⟩)) (i : OB w b 35 (pCells p) w2) {R : Prt} (hR : p = R) :
  bodyPost Tryz.prog Tryz.f17 (fun e w' => e = .returned (.agg (pCells R)) ∧ Below w.heap.size w w') Exit.ret { tmps := tmps, defers := [] } w2 := by
 subst hR
 have h2' : tmps[2]?.getD undef = .pointer (some ⟨b, 0, none⟩) := by simpa using h2
 have hl := i.load (P := Tryz.prog) 35 _ Tryz.underlying35 rfl p_info
 refine bodyPost_ret (v := .agg (pCells p)) ?_ rfl ⟨rfl, i.bel⟩
 simp [results, Tryz.results17, asAddr, h2', hl]
theorem cut1_len (c : UInt8) (s : Bytes) : (cut1 c s).1.length <= s.length ∧ (cut1 c s).2.1.length <= s.length := by
 have h := congrArg List.length (cut1_is c s)
 rw [List.length_append] at h
 by_cases hf : (cut1 c s).2.2 = true
 ·rw [if_pos hf, List.length_cons] at h
  omega
 ·rw [cut1_flag c s (by simpa using hf)]
  simp only [List.length_nil]
  omega
theorem split_any (s : Bytes) (w : World) (hl : s.length <= 1024000000) (hE : Env w) : Calls Tryz.prog 17 #[.string (bs s)] w fun e w' => e = .returned (.agg (pCells (splitF s))) ∧ Below w.heap.size w w' := by
 have hsf : splitF s = if (cut1 58 (cut1 63 (cut1 35 s).1).1).2.2 = true ∧ schN (cut1 58 (cut1 63 (cut1 35 s).1).1).1 = true then ⟨true, (cut1 58 (cut1 63 (cut1 35 s).1).1).1.map lowB, (cut1 58 (cut1 63 (cut1 35 s).1).1).2.1, (cut1 63 (cut1 35 s).1).2.2, (cut1 63 (cut1 35 s).1).2.1, (cut1 35 s).2.2, (cut1 35 s).2.1⟩ else ⟨false, [], (cut1 63 (cut1 35 s).1).1, (cut1 63 (cut1 35 s).1).2.2, (cut1 63 (cut1 35 s).1).2.1, (cut1 35 s).2.2, (cut1 35 s).2.1⟩ := rfl
 obtain ⟨R, hR⟩ := ex_ (splitF s)
 rw [<- hR]
 rw [<- hR] at hsf
 clear hR
 have l1 := cut1_len 35 s
 have k1 := fun (W : World) (hW : Below w.heap.size w W) => scut_any s [35] W hl (hE.below hW)
 rw [lcut1] at k1
 generalize cut1 35 s = C1 at *
 obtain ⟨a, f, hf⟩ := C1
 simp only at hsf l1 k1
 have l2 := cut1_len 63 a
 have k2 := fun (W : World) (hW : Below w.heap.size w W) => scut_any a [63] W (by omega) (hE.below hW)
 rw [lcut1] at k2
 generalize cut1 63 a = C2 at *
 obtain ⟨b, q, hq⟩ := C2
 simp only at hsf l2 k2
 have l3 := cut1_len 58 b
 have k3 := fun (W : World) (hW : Below w.heap.size w W) => scut_any b [58] W (by omega) (hE.below hW)
 rw [lcut1] at k3
 generalize cut1 58 b = C3 at *
 obtain ⟨c, d, hc⟩ := C3
 simp only at hsf l3 k3
 have kn := fun W => pnamed_any c W (by omega)
 have kl := fun W => lower_any c W (by unfold maxLen; omega)
 generalize schN c = sn at hsf kn
 obtain ⟨S0, hS0⟩ := ex_ (bs s)
 obtain ⟨SA, hSA⟩ := ex_ (bs a)
 obtain ⟨SB, hSB⟩ := ex_ (bs b)
 obtain ⟨SC, hSC⟩ := ex_ (bs c)
 have K1 := h_ (show ∀ W, Below w.heap.size w W -> Calls Tryz.prog 48 #[.string S0, .string ⟨#[35]⟩] W fun e w' => e = .returned (.tuple #[.string SA, S f, .bool hf]) ∧ Below W.heap.size W w' from by rw [hS0, hSA]; exact k1)
 have K2 := h_ (show ∀ W, Below w.heap.size w W -> Calls Tryz.prog 48 #[.string SA, .string ⟨#[63]⟩] W fun e w' => e = .returned (.tuple #[.string SB, S q, .bool hq]) ∧ Below W.heap.size W w' from by rw [hSA, hSB]; exact k2)
 have K3 := h_ (show ∀ W, Below w.heap.size w W -> Calls Tryz.prog 48 #[.string SB, .string ⟨#[58]⟩] W fun e w' => e = .returned (.tuple #[.string SC, S d, .bool hc]) ∧ Below W.heap.size W w' from by rw [hSB, hSC]; exact k3)
 have KN := h_ (show ∀ W, Calls Tryz.prog 49 #[.string SC] W fun e w' => e = .returned (.bool sn) ∧ w' = W from by rw [hSC]; exact kn)
 have KL := h_ (show ∀ W, Calls Tryz.prog 50 #[.string SC] W fun e w' => e = .returned (S (c.map lowB)) ∧ Below W.heap.size W w' from by rw [hSC]; exact kl)
 have HSB := h_ hSB
 rw [<- hS0]
 have HSF := h_ hsf
 clear k1 k2 k3 kn kl hS0 hSA hSB hSC l1 l2 l3 hsf hl hE
 generalize c.map lowB = cl at *
 go_enter Tryz.func17, Tryz.ntmps17
 go_upto_region 2 with (first
  | (refine alloc_to rfl 35 rfl _ _ (allP _) ?_)
  | fail)
 have h4 := OB.fresh w 35 (pCells P0)
 obtain ⟨w1, hw1⟩ := ex_ (w.alloc (.cells (pCells P0) 35))
 rw [<- hw1] at h4 ⊢
 have hz1 : w1.heap.size = w.heap.size + 1 := by rw [hw1]; simp
 have h6 := OB.fresh w1 35 (pCells P0)
 rw [hz1] at h6
 try rw [hz1]
 have H4 := h_ h4; clear h4
 clear hw1
 obtain ⟨w2, hw2⟩ := ex_ (w1.alloc (.cells (pCells P0) 35))
 rw [<- hw2] at h6 ⊢
 clear hw2
 have H6 := h_ h6; clear h6
 have HBW := h_ (show ∀ W, Below w1.heap.size w1 W -> Below w.heap.size w W from fun W hW => stp H4.out.bel hW)
 clear hz1
 go_upto_region 3 with (first
  | (go_at_call 48; refine (K1.out _ (HBW.out _ H6.out.bel)).mono ?_; rintro e w3 ⟨rfl, hb⟩; have H63 := h_ (H6.out.below hb); clear hb)
  | (refine put1 rfl 9 (.tmp 13) (.tmp 11) rfl w1 (w.heap.size + 1) 35 (pCells P0) H63.out 6 (S f) rfl rfl (show 6 < 7 by decide) one_info.1 rfl (pCells { P0 with f := f }) rfl ?_; intro w4 i _ _; have H64 := h_ i; clear i)
  | (refine put1 rfl 4 (.tmp 14) (.tmp 12) rfl w1 (w.heap.size + 1) 35 (pCells { P0 with f := f }) H64.out 5 (.bool hf) rfl rfl (show 5 < 7 by decide) one_info.2.2 rfl (pCells { P0 with f := f, hasF := hf }) rfl ?_; intro w5 i _ _; have H65 := h_ i; clear i)
  | fail)
 clear H6 H63 H64
 go_upto_region 4 with (first
  | (go_at_call 48; refine (K2.out _ (HBW.out _ H65.out.bel)).mono ?_; rintro e w6 ⟨rfl, hb⟩; have H66 := h_ (H65.out.below hb); clear hb)
  | (refine put1 rfl 9 (.tmp 21) (.tmp 19) rfl w1 (w.heap.size + 1) 35 (pCells { P0 with f := f, hasF := hf }) H66.out 4 (S q) rfl rfl (show 4 < 7 by decide) one_info.1 rfl (pCells { P0 with f := f, hasF := hf, q := q }) rfl ?_; intro w7 i _ _; have H67 := h_ i; clear i)
  | (refine put1 rfl 4 (.tmp 22) (.tmp 20) rfl w1 (w.heap.size + 1) 35 (pCells { P0 with f := f, hasF := hf, q := q }) H67.out 3 (.bool hq) rfl rfl (show 3 < 7 by decide) one_info.2.2 rfl (pCells { P0 with f := f, hasF := hf, q := q, hasQ := hq }) rfl ?_; intro w8 i _ _; have H68 := h_ i; clear i)
  | fail)
 clear H65 H66 H67
 go_upto_region 5 with (first
  | (refine put1 rfl 9 (.tmp 24) (.tmp 23) rfl w1 (w.heap.size + 1) 35 (pCells { P0 with f := f, hasF := hf, q := q, hasQ := hq }) H68.out 2 (.string SB) rfl rfl (show 2 < 7 by decide) one_info.1 rfl (pCells { P0 with f := f, hasF := hf, q := q, hasQ := hq, rest := b }) (by rw [HSB.out]; rfl) ?_; intro w9 i _ _; have H69 := h_ i; clear i)
  | fail)
 clear H68
 go_upto_region 6 with (first
  | (go_at_call 48; refine (K3.out _ (HBW.out _ H69.out.bel)).mono ?_; rintro e w10 ⟨rfl, hb⟩; have H70 := h_ (H69.out.below hb); clear hb)
  | fail)
 clear H69
 cases hc with
 | false =>
  have HR := h_ (show R = ⟨false, [], b, hq, q, hf, f⟩ from HSF.out)
  go_upto_region 10 with (first
   | (go_at_call 49; refine (KN.out _).mono ?_; rintro e w11 ⟨rfl, hw⟩; subst hw)
   | fail)
  have H47 := h_ (H4.out.below H70.out.bel)
  go_wp2_with (first
   | (refine getN rfl 35 (.tmp 3) rfl w1 (w.heap.size + 1) 35 (pCells { P0 with f := f, hasF := hf, q := q, hasQ := hq, rest := b }) H70.out _ rfl Tryz.underlying35 rfl p_info ?_)
   | (refine putN rfl 35 (.tmp 2) (.tmp 42) rfl w w.heap.size 35 (pCells P0) H47.out 0 (pCells { P0 with f := f, hasF := hf, q := q, hasQ := hq, rest := b }).toList rfl rfl (Nat.le_refl _) p_info p_one (pCells { P0 with f := f, hasF := hf, q := q, hasQ := hq, rest := b }) rfl ?_; intro w12 i; have H48 := h_ i; clear i)
   | fail)
  exact p_res rfl H48.out (by rw [HR.out]; rfl)
 | true =>
  cases sn with
  | false =>
   have HR := h_ (show R = ⟨false, [], b, hq, q, hf, f⟩ from HSF.out)
   go_upto_region 10 with (first
    | (go_at_call 49; refine (KN.out _).mono ?_; rintro e w11 ⟨rfl, hw⟩; subst hw)
    | fail)
   have H47 := h_ (H4.out.below H70.out.bel)
   go_wp2_with (first
    | (refine getN rfl 35 (.tmp 3) rfl w1 (w.heap.size + 1) 35 (pCells { P0 with f := f, hasF := hf, q := q, hasQ := hq, rest := b }) H70.out _ rfl Tryz.underlying35 rfl p_info ?_)
    | (refine putN rfl 35 (.tmp 2) (.tmp 42) rfl w w.heap.size 35 (pCells P0) H47.out 0 (pCells { P0 with f := f, hasF := hf, q := q, hasQ := hq, rest := b }).toList rfl rfl (Nat.le_refl _) p_info p_one (pCells { P0 with f := f, hasF := hf, q := q, hasQ := hq, rest := b }) rfl ?_; intro w12 i; have H48 := h_ i; clear i)
    | fail)
   exact p_res rfl H48.out (by rw [HR.out]; rfl)
  | true =>
   have HR := h_ (show R = ⟨true, cl, d, hq, q, hf, f⟩ from HSF.out)
   go_upto_region 10 with (first
    | (go_at_call 49; refine (KN.out _).mono ?_; rintro e w11 ⟨rfl, hw⟩; subst hw)
    | (go_at_call 50; refine (KL.out _).mono ?_; rintro e w13 ⟨rfl, hb⟩; have H73 := h_ (H71.out.below hb); clear hb)
    | (refine put1 rfl 4 (.tmp 36) (.const (.bool true)) rfl w1 (w.heap.size + 1) 35 (pCells { P0 with f := f, hasF := hf, q := q, hasQ := hq, rest := b }) H70.out 0 (.bool true) rfl rfl (show 0 < 7 by decide) one_info.2.2 rfl (pCells { P0 with f := f, hasF := hf, q := q, hasQ := hq, rest := b, hasS := true }) rfl ?_; intro w12 i _ _; have H71 := h_ i; clear i)
    | (refine put1 rfl 9 (.tmp 39) (.tmp 38) rfl w1 (w.heap.size + 1) 35 (pCells { P0 with f := f, hasF := hf, q := q, hasQ := hq, rest := b, hasS := true }) H73.out 1 (S cl) rfl rfl (show 1 < 7 by decide) one_info.1 rfl (pCells { P0 with f := f, hasF := hf, q := q, hasQ := hq, rest := b, hasS := true, sch := cl }) rfl ?_; intro w14 i _ _; have H74 := h_ i; clear i)
    | (refine put1 rfl 9 (.tmp 41) (.tmp 40) rfl w1 (w.heap.size + 1) 35 (pCells { P0 with f := f, hasF := hf, q := q, hasQ := hq, rest := b, hasS := true, sch := cl }) H74.out 2 (S d) rfl rfl (show 2 < 7 by decide) one_info.1 rfl (pCells { P0 with f := f, hasF := hf, q := q, hasQ := hq, rest := d, hasS := true, sch := cl }) rfl ?_; intro w15 i _ _; have H75 := h_ i; clear i)
    | fail)
   have H47 := h_ (H4.out.below H75.out.bel)
   go_wp2_with (first
    | (refine getN rfl 35 (.tmp 3) rfl w1 (w.heap.size + 1) 35 (pCells { P0 with f := f, hasF := hf, q := q, hasQ := hq, rest := d, hasS := true, sch := cl }) H75.out _ rfl Tryz.underlying35 rfl p_info ?_)
    | (refine putN rfl 35 (.tmp 2) (.tmp 42) rfl w w.heap.size 35 (pCells P0) H47.out 0 (pCells { P0 with f := f, hasF := hf, q := q, hasQ := hq, rest := d, hasS := true, sch := cl }).toList rfl rfl (Nat.le_refl _) p_info p_one (pCells { P0 with f := f, hasF := hf, q := q, hasQ := hq, rest := d, hasS := true, sch := cl }) rfl ?_; intro w12 i; have H48 := h_ i; clear i)
    | fail)
   exact p_res rfl H48.out HR.out.symm
end Go.Proofs.YtpckaimpjccjhaaGreatDoor
