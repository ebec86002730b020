/- HstF HstG HplB HplC: joined. -/
import Derived.Test.YtgfklkfbccknoaaGreatDoorGSixU
import Derived.Test.YtgfklkfbccknoaaGreatDoorGLow
/- The reference's Parse of layer 11. -/
namespace Go.Proofs.YtgfklkfbccknoaaGreatDoor
open Go.RowKit
set_option maxRecDepth 10000

theorem rpres {tmps : Array Value} {w w2 : World} {b : Nat} {h : Hst} {q : Bool} (h2 : tmps.getD 4 undef = .pointer (some ⟨b, 0, none⟩)) (h3 : tmps.getD 5 undef = .bool q) (i : InB w b h w2) {R : Option Hst} (hR : h = R.getD H0) (hq : q = R.isSome) :
    bodyPost Tryz.prog Tryz.f12 (fun e w' => e = hostE R ∧ Below w.heap.size w w') Exit.ret { tmps := tmps, defers := [] } w2 := by
  have h2' : tmps[4]?.getD undef = .pointer (some ⟨b, 0, none⟩) := by simpa using h2
  have h3' : tmps[5]?.getD undef = .bool q := by simpa using h3
  have hl := load_host w2 b h i.a i.l
  refine bodyPost_ret (v := .tuple #[.agg (hCells h), .bool q]) ?_ rfl ⟨by rw [hR, hq], i.bel⟩
  simp [results, Tryz.results12, asAddr, h2', h3', hl]
theorem store8 {ops : Array Oper} {rest : List Oper} {o : Oper} {a : Act} {w W : World} {Q : Exit → Act → World → Prop} (hgd : o.guard = none) (x y : Operand) (ho : o.op = .store 24 x y) (ca : Array Value) (h8 : ca.size = 8) (hon : ca.all (·.oneCell') = true)
    (hW : W = w.alloc (.cells (U16s Z8).toArray 24)) (hx : a.eval x = .pointer (some ⟨w.heap.size, 0, none⟩)) (hy : a.eval y = .agg ca) (k : wpList Tryz.prog ops Q rest (a.put o.dst undef) (w.alloc (.cells ca 24))) : wpList Tryz.prog ops Q (o :: rest) a W := by
  subst hW
  exact store_new hgd 24 x y ho ca (U16s Z8).toArray 24 hx hy (by rw [size8, h8]) (by rw [h8]; rfl) hon k
theorem load8 {ops : Array Oper} {rest : List Oper} {o : Oper} {a : Act} {w W : World} {Q : Exit → Act → World → Prop} (hgd : o.guard = none) (x : Operand) (ho : o.op = .load 24 x) (ca : Array Value) (h8 : ca.size = 8)
    (hW : W = w.alloc (.cells ca 24)) (hx : a.eval x = .pointer (some ⟨w.heap.size, 0, none⟩)) (k : wpList Tryz.prog ops Q rest (a.put o.dst (.agg ca)) (w.alloc (.cells ca 24))) : wpList Tryz.prog ops Q (o :: rest) a W := by
  subst hW
  exact load_new hgd 24 x ho ca 24 hx _ Tryz.underlying24 rfl (by rw [size8, h8]) k
theorem nbL_t (c : Int) : nbL true c = nbF c := by unfold nbL nbF; rw [Bool.true_and]
theorem nbL_true (l : Bytes) : (l.any fun x => nbL true (b2 x)) = l.any fun x => nbF (b2 x) := by simp only [nbL_t]
theorem nbL_false (l : Bytes) : (l.any fun x => nbL false (b2 x)) = l.any fun x => badF (b2 x) := by
  congr 1; funext x; unfold nbL; simp
set_option maxHeartbeats 20000000 in
theorem rhp_br (l : Bytes) (sp : Bool) (w : World) (hl : l.length ≤ 1000) (h91 : l.head? = some 91) : Calls Tryz.prog 12 #[.string (bs l), .bool sp] w fun e w' => e = hostE (hostP l sp) ∧ Below w.heap.size w w' := by
  have hsix := fun (m : Bytes) (hm : m.length ≤ 1000) W => rsixparse_any m W (by omega)
  obtain ⟨R, hR⟩ : ∃ R, R = hostP l sp := ⟨_, rfl⟩
  rw [← hR]
  unfold hostP at hR
  obtain ⟨s, hs⟩ : ∃ s, s = bs l := ⟨_, rfl⟩
  have hsz : s.size = l.length := by rw [hs, bs_size]
  have hby : ∀ k (hk : k < s.size) (hk2 : k < l.length), ((s[k]'hk).toNat : Int) = b2 l[k] := fun k hk hk2 => str_at hs hk hk2
  have hex : ∀ a b, s.extract a b = bs ((l.drop a).take (b - a)) := fun a b => by rw [hs, bs_extract]
  rw [← hs]
  clear hs
  obtain ⟨N, hN⟩ : ∃ N, N = s.size := ⟨_, rfl⟩
  have hsN : s.size = N := hN.symm
  have hNm : N ≤ 1000 := by omega
  have hNl : N = l.length := by omega
  clear hN hsz
  have HI := Lib.hid (inB_fresh w)
  have hw1 : IntKind.i64.wrap ((N : Int) - 1) = (N : Int) - 1 := IntWalk.i64_in _ (by omega)
  · rw [if_pos h91] at hR
    have hN1 : 0 < N := by
      cases l with
      | nil => cases h91
      | cons x r => rw [hNl]; simp
    have hs0 : 0 < s.size := by rw [hsN]; exact hN1
    have hx0 : ((s[0]'hs0).toNat : Int) = 91 := by
      rw [hby 0 hs0 (by omega)]
      rw [List.head?_eq_getElem?, List.getElem?_eq_getElem (by omega)] at h91
      injection h91 with h91
      rw [h91]; decide
    by_cases h2 : N < 2
    · have hR0 : R = none := by
        rw [hR]
        have : l.drop 1 = [] := List.drop_eq_nil_of_le (by omega)
        rw [this]; rfl
      have HR := Lib.hid hR0; clear hR hR0 hsix hex hby hNl h91
      go_enter Tryz.func12, Tryz.ntmps12
      go_wp2_with (first
      | (refine alloc_to rfl 26 rfl _ _ (allH _) ?_)
      | (refine build_to rfl 26 #[] rfl (.agg (hCells H0)) #[] rfl bldH0 ?_)
      | (refine put_host rfl (.tmp 4) (.tmp 31) rfl w w.heap.size _ H0 HI.out (Nat.le_refl _) rfl rfl rfl ?_; intro wz iz; have HIZ := Lib.hid iz; clear iz)
      | fail)
      exact rpres rfl rfl HIZ.out (by rw [HR.out]; rfl) (by rw [HR.out]; rfl)
    have hN2 : decide ((N : Int) < 2) = false := decide_eq_false (by omega)
    have hN2' : ¬ ((N : Int) < 2) := by omega
    have hd1 : l.drop 1 ≠ [] := fun h => by have := congrArg List.length h; rw [List.length_drop] at this; simp at this; omega
    obtain ⟨q, x, hqx⟩ : ∃ q x, l.drop 1 = q ++ [x] := ⟨_, _, (List.dropLast_concat_getLast hd1).symm⟩
    have hql : q.length + 2 = N := by have := congrArg List.length hqx; rw [List.length_drop] at this; simp at this; omega
    obtain ⟨K, hK⟩ : ∃ K, K = N - 1 := ⟨_, rfl⟩
    have hw1' : IntKind.i64.wrap ((N : Int) - 1) = (K : Int) := by rw [hw1]; omega
    have hKs : K < s.size := by rw [hsN]; omega
    have hxk : ((s[K]'hKs).toNat : Int) = b2 x := by
      rw [hby K hKs (by omega)]
      have e : l[K]'(by omega) = x := by
        have e1 : (l.drop 1)[K - 1]? = some (l[K]'(by omega)) := by rw [List.getElem?_drop, show 1 + (K - 1) = K by omega]; exact List.getElem?_eq_getElem (by omega)
        rw [hqx, List.getElem?_append_right (by omega), show K - 1 - q.length = 0 by omega] at e1
        injection e1 with e1
        exact e1.symm
      rw [e]
    have hKN : K < N := by omega
    have h1K : 1 ≤ K := by omega
    have hexq : s.extract 1 K = bs q := by
      rw [hex, hqx, show K - 1 = q.length by omega, List.take_left']
      rfl
    have hbr : brF (l.drop 1) = if x = 93 then (match sixPF q with | none => none | some a => some { H0 with kind := 4, six := a }) else none := by
      rw [hqx]; unfold brF; rw [suf_snoc]
      by_cases hx : x = 93
      · subst hx; rw [if_pos (by simp), if_pos rfl, trim_snoc]; rfl
      · rw [if_neg (by simpa using hx), if_neg hx]
    rw [hbr] at hR
    have hsq := fun W => hsix q (by omega) W
    clear hw1 hqx hbr hex hby hsix hd1 h91 hNl
    by_cases hx93 : x = 93
    · rw [if_pos hx93] at hR
      have hb : b2 x = 93 := by rw [hx93]; decide
      rw [hb] at hxk
      obtain ⟨u, hu⟩ : ∃ u, u = bs q := ⟨_, rfl⟩
      rw [← hu] at hexq hsq
      have HK := Lib.hid hK; clear hK hu hx93 hb
      have HQL := Lib.hid hql; clear hql
      cases hss : sixPF q with
      | none =>
        rw [hss] at hR hsq
        have HR := Lib.hid (show R = none from hR); clear hR hss
        change ∀ W, Calls _ _ _ W fun e w' => e = .returned (.tuple #[.agg (U16s Z8).toArray, .bool false]) ∧ Below W.heap.size W w' at hsq
        have HSX := Lib.hid hsq; clear hsq
        go_enter Tryz.func12, Tryz.ntmps12
        go_wp2_with (first
      | (refine alloc_to rfl 26 rfl _ _ (allH _) ?_)
      | (go_at_call 24; refine (HSX.out _).mono ?_; rintro e w2 ⟨rfl, hb2⟩; have HI2 := Lib.hid (HI.out.below (Nat.le_refl _) hb2); clear hb2)
      | (refine alloc_to rfl 24 rfl _ _ (all8z _) ?_)
      | (refine store8 rfl (.tmp 7) (.tmp 38) rfl (U16s Z8).toArray rfl (one8 _) rfl rfl rfl ?_; have HI3 := Lib.hid (HI2.out.alloc (.cells (U16s Z8).toArray 24) (Nat.le_refl _)))
      | (refine build_to rfl 26 #[] rfl (.agg (hCells H0)) #[] rfl bldH0 ?_)
      | (refine put_host rfl (.tmp 4) (.tmp 42) rfl w w.heap.size _ H0 HI3.out (Nat.le_refl _) rfl rfl rfl ?_; intro wz iz; have HIZ := Lib.hid iz; clear iz)
      | fail)
        exact rpres rfl rfl HIZ.out (by rw [HR.out]; rfl) (by rw [HR.out]; rfl)
      | some a =>
        rw [hss] at hR hsq
        change ∀ W, Calls _ _ _ W fun e w' => e = .returned (.tuple #[.agg (U16s a).toArray, .bool true]) ∧ Below W.heap.size W w' at hsq
        have ha := (sixP_range hss).1
        have hbl := bldH4 a ha
        obtain ⟨G, hG⟩ : ∃ G : Hst, G = { H0 with kind := 4, six := a } := ⟨_, rfl⟩
        have hG8 : G.six.length = 8 := by rw [hG]; exact ha
        replace hR : R = some G := by rw [hR, hG]
        rw [← hG] at hbl
        clear hG hss
        have HG8 := Lib.hid hG8; clear hG8
        have HR := Lib.hid hR; clear hR
        obtain ⟨ca, hca⟩ : ∃ ca, ca = (U16s a).toArray := ⟨_, rfl⟩
        rw [← hca] at hsq hbl
        have h8 : ca.size = 8 := by rw [hca]; simp [ha]
        have HON := Lib.hid (show ca.all (·.oneCell') = true by rw [hca]; exact one8 a)
        clear hca ha
        have H8 := Lib.hid h8; clear h8
        have HBL := Lib.hid hbl; clear hbl
        have HSX := Lib.hid hsq; clear hsq
        go_enter Tryz.func12, Tryz.ntmps12
        go_wp2_with (first
      | (refine alloc_to rfl 26 rfl _ _ (allH _) ?_)
      | (go_at_call 24; refine (HSX.out _).mono ?_; rintro e w2 ⟨rfl, hb2⟩; have HI2 := Lib.hid (HI.out.below (Nat.le_refl _) hb2); clear hb2)
      | (refine alloc_to rfl 24 rfl _ _ (all8z _) ?_)
      | (refine store8 rfl (.tmp 7) (.tmp 38) rfl ca H8.out HON.out rfl rfl rfl ?_; have HI3 := Lib.hid (HI2.out.alloc (.cells ca 24) (Nat.le_refl _)))
      | (refine load8 rfl (.tmp 7) rfl ca H8.out rfl rfl ?_)
      | (refine build2 rfl 0 3 (.const (.int .i64 4)) (.tmp 43) rfl (.int .i64 4) (.agg ca) (.agg (hCells G)) rfl rfl HBL.out ?_)
      | (refine put_host rfl (.tmp 4) (.tmp 44) rfl w w.heap.size _ G HI3.out (Nat.le_refl _) HG8.out rfl rfl ?_; intro w4 i4; have HI4 := Lib.hid i4; clear i4)
      | fail)
        exact rpres rfl rfl HI4.out (by rw [HR.out]; rfl) (by rw [HR.out]; rfl)
    · rw [if_neg hx93] at hR
      have HR := Lib.hid hR; clear hR hsq
      have hb : ¬ b2 x = 93 := fun h => hx93 (b2_inj (y := 93) (h.trans (by decide)))
      generalize b2 x = X at hxk hb
      have qb : (X == 93) = false := by simpa using hb
      have HK := Lib.hid hK; clear hK hx93
      have HQL := Lib.hid hql; clear hql hexq
      go_enter Tryz.func12, Tryz.ntmps12
      go_wp2_with (first
      | (refine alloc_to rfl 26 rfl _ _ (allH _) ?_)
      | (refine build_to rfl 26 #[] rfl (.agg (hCells H0)) #[] rfl bldH0 ?_)
      | (refine put_host rfl (.tmp 4) (.tmp 31) rfl w w.heap.size _ H0 HI.out (Nat.le_refl _) rfl rfl rfl ?_; intro wz iz; have HIZ := Lib.hid iz; clear iz)
      | fail)
      exact rpres rfl rfl HIZ.out (by rw [HR.out]; rfl) (by rw [HR.out]; rfl)
end Go.Proofs.YtgfklkfbccknoaaGreatDoor

/- The reference's Parse of layer 11: texts that begin with no bracket. -/
namespace Go.Proofs.YtgfklkfbccknoaaGreatDoor
open Go.RowKit
set_option maxRecDepth 10000

theorem head_no {l : Bytes} {s : ByteArray} (hs : s = bs l) (h : l.head? ≠ some 91) : s.size = 0 ∨ ∃ h0 : 0 < s.size, ¬ ((s[0]'h0).toNat : Int) = 91 := by
  have hz : s.size = l.length := by rw [hs, bs_size]
  cases l with
  | nil => left; rw [hz]; rfl
  | cons x r =>
    right
    have h0 : 0 < s.size := by rw [hz]; simp
    refine ⟨h0, fun e => h ?_⟩
    rw [str_at hs h0 (by simp)] at e
    have : x = 91 := b2_inj (y := 91) (e.trans (by decide))
    rw [this]; rfl
set_option maxHeartbeats 20000000 in
theorem rhp_opaq (l : Bytes) (w : World) (hl : l.length ≤ 1000) (h91 : l.head? ≠ some 91) : Calls Tryz.prog 12 #[.string (bs l), .bool false] w fun e w' => e = hostE (hostP l false) ∧ Below w.heap.size w w' := by
  have hbadf := fun W => rbad_any l false W (by omega)
  rw [nbL_false] at hbadf
  have hen := fun W => rencode3_any 0 l W (by omega)
  obtain ⟨R, hR⟩ : ∃ R, R = hostP l false := ⟨_, rfl⟩
  rw [← hR]
  unfold hostP at hR
  rw [if_neg h91, if_neg (by simp)] at hR
  have HI := Lib.hid (inB_fresh w)
  obtain ⟨s, hs⟩ : ∃ s, s = bs l := ⟨_, rfl⟩
  have hsz : s.size = l.length := by rw [hs, bs_size]
  rw [← hs] at hbadf hen ⊢
  rcases head_no hs h91 with hz | ⟨h0, hx⟩
  · have hnil : l = [] := List.eq_nil_of_length_eq_zero (by omega)
    rw [if_pos hnil] at hR
    have HR := Lib.hid hR
    clear hR hnil hsz hbadf hen hs h91
    go_enter Tryz.func12, Tryz.ntmps12
    go_wp2_with (first
      | (refine alloc_to rfl 26 rfl _ _ (allH _) ?_)
      | (refine build1 rfl 0 (.const (.int .i64 1)) rfl (.int .i64 1) (.agg (hCells { H0 with kind := 1 })) rfl bldH1 ?_)
      | (refine put_host rfl (.tmp 4) (.tmp 49) rfl w w.heap.size _ { H0 with kind := 1 } HI.out (Nat.le_refl _) rfl rfl rfl ?_; intro w4 i4; have HI4 := Lib.hid i4; clear i4)
      | fail)
    exact rpres rfl rfl HI4.out (by rw [HR.out]; rfl) (by rw [HR.out]; rfl)
  have hnil : ¬ l = [] := fun e => by rw [e] at hsz; rw [hsz] at h0; exact absurd h0 (by simp)
  rw [if_neg hnil] at hR
  obtain ⟨N, hN⟩ : ∃ N, N = s.size := ⟨_, rfl⟩
  have hsN : s.size = N := hN.symm
  have hN0 : 0 < N := by omega
  have hNm : N ≤ 1000 := by omega
  have hNz : ((N : Int) == 0) = false := by simp; omega
  obtain ⟨X, hX⟩ : ∃ X, X = ((s[0]'h0).toNat : Int) := ⟨_, rfl⟩
  rw [← hX] at hx
  have hX2 := hX.symm
  have hXq : (X == 91) = false := by simpa using hx
  clear hX hx hN hnil hsz hs h91
  obtain ⟨q, hq⟩ : ∃ q, q = l.any fun x => badF (b2 x) := ⟨_, rfl⟩
  rw [← hq] at hbadf hR
  clear hq
  have HB := Lib.hid hbadf; clear hbadf
  cases q with
  | true =>
    rw [if_pos rfl] at hR
    have HR := Lib.hid hR; clear hR hen
    go_enter Tryz.func12, Tryz.ntmps12
    go_wp2_with (first
      | (refine alloc_to rfl 26 rfl _ _ (allH _) ?_)
      | (go_at_call 25; refine (HB.out _).mono ?_; rintro e w2 ⟨rfl, hw2⟩; subst hw2)
      | (refine build_to rfl 26 #[] rfl (.agg (hCells H0)) #[] rfl bldH0 ?_)
      | (refine put_host rfl (.tmp 4) (.tmp 52) rfl w w.heap.size _ H0 HI.out (Nat.le_refl _) rfl rfl rfl ?_; intro w4 i4; have HI4 := Lib.hid i4; clear i4)
      | fail)
    exact rpres rfl rfl HI4.out (by rw [HR.out]; rfl) (by rw [HR.out]; rfl)
  | false =>
    rw [if_neg (by simp)] at hR
    have hb5 := bldH5 (pcB 0 l)
    obtain ⟨G5, hG5⟩ : ∃ G : Hst, G = { H0 with kind := 5, name := pcB 0 l } := ⟨_, rfl⟩
    have hG58 : G5.six.length = 8 := by rw [hG5]; rfl
    rw [← hG5] at hb5 hR
    obtain ⟨c, hc⟩ : ∃ c, c = bs (pcB 0 l) := ⟨_, rfl⟩
    have HEN := Lib.hid (show ∀ W, Calls Tryz.prog 26 #[.string s, .int .i64 0] W fun e w' => e = .returned (.string c) ∧ Below W.heap.size W w' from by rw [hc]; exact hen)
    rw [← hc] at hb5
    have HR := Lib.hid hR
    have HB5 := Lib.hid hb5
    have HG58 := Lib.hid hG58
    clear hR hb5 hG58 hG5 hc hen
    go_enter Tryz.func12, Tryz.ntmps12
    go_wp2_with (first
      | (refine alloc_to rfl 26 rfl _ _ (allH _) ?_)
      | (go_at_call 25; refine (HB.out _).mono ?_; rintro e w2 ⟨rfl, hw2⟩; subst hw2)
      | (go_at_call 26; refine (HEN.out _).mono ?_; rintro e w4 ⟨rfl, hb4⟩; have HI4 := Lib.hid (HI.out.below (Nat.le_refl _) hb4); clear hb4)
      | (refine build2 rfl 0 1 (.const (.int .i64 5)) (.tmp 54) rfl (.int .i64 5) (.string c) (.agg (hCells G5)) rfl rfl HB5.out ?_)
      | (refine put_host rfl (.tmp 4) (.tmp 55) rfl w w.heap.size _ G5 HI4.out (Nat.le_refl _) HG58.out rfl rfl ?_; intro w5 i5; have HI5 := Lib.hid i5; clear i5)
      | fail)
    exact rpres rfl rfl HI5.out (by rw [HR.out]; rfl) (by rw [HR.out]; rfl)
set_option maxHeartbeats 40000000 in
theorem rhp_name (l : Bytes) (w : World) (hl : l.length ≤ 1000) (h91 : l.head? ≠ some 91) : Calls Tryz.prog 12 #[.string (bs l), .bool true] w fun e w' => e = hostE (nmF l) ∧ Below w.heap.size w w' := by
  have hpdl := pdF_len _ l (Nat.le_refl _)
  have hsh := short_of hl
  have hde := fun W => rdecode3_any l W (by omega)
  have hdm := fun W => rdomain_any (pdF l) W (by omega)
  have hn := hsh.sn
  obtain ⟨R, hR⟩ : ∃ R, R = nmF l := ⟨_, rfl⟩
  rw [← hR]
  unfold nmF at hR
  obtain ⟨D, hD⟩ : ∃ D, D = pdF l := ⟨_, rfl⟩
  rw [← hD] at hde hdm hR hn
  clear hD hpdl hsh
  have HI := Lib.hid (inB_fresh w)
  obtain ⟨s, hs⟩ : ∃ s, s = bs l := ⟨_, rfl⟩
  have hsz : s.size = l.length := by rw [hs, bs_size]
  have hh := head_no hs h91
  rw [← hs] at hde ⊢
  clear hs h91
  obtain ⟨N, hN⟩ : ∃ N, N = s.size := ⟨_, rfl⟩
  have hsN : s.size = N := hN.symm
  have hNm : N ≤ 1000 := by omega
  have hg : N = 0 ∨ ∃ (h0 : 0 < s.size) (X : Int), ((s[0]'h0).toNat : Int) = X ∧ (X == 91) = false ∧ 0 < N := by
    rcases hh with h | ⟨h0, hx⟩
    · left; omega
    · right; exact ⟨h0, _, rfl, by simpa using hx, by omega⟩
  clear hh hN hsz hl
  have HDE := Lib.hid hde; clear hde
  cases hd : domF D with
  | none =>
    rw [hd] at hR hdm
    have HR := Lib.hid (show R = none from hR); clear hR hn hd
    change ∀ W, Calls _ _ _ W fun e w' => e = .returned (.tuple #[S [], .bool false]) ∧ Below W.heap.size W w' at hdm
    have HDM := Lib.hid hdm; clear hdm
    rcases hg with rfl | ⟨h0, X, hX, hXq, hN0⟩
    all_goals
      go_enter Tryz.func12, Tryz.ntmps12
      go_wp2_with (first
        | (refine alloc_to rfl 26 rfl _ _ (allH _) ?_)
        | (go_at_call 28; refine (HDE.out _).mono ?_; rintro e w2 ⟨v, rfl, ho2, hb2⟩; have HCV := Lib.hid (conv_own (P := Tryz.prog) (src := 37) (dst := 9) Tryz.underlying37 Tryz.underlying5 Tryz.underlying9 ho2); have hcv := HCV.out; clear ho2; have HI2 := Lib.hid (HI.out.below (Nat.le_refl _) hb2); clear hb2)
        | (go_at_call 27; refine (HDM.out _).mono ?_; rintro e w3 ⟨rfl, hb3⟩; have HI3 := Lib.hid (HI2.out.below (Nat.le_refl _) hb3); clear hb3)
        | (refine build_to rfl 26 #[] rfl (.agg (hCells H0)) #[] rfl bldH0 ?_)
        | (refine put_host rfl (.tmp 4) (.tmp 73) rfl w w.heap.size _ H0 HI3.out (Nat.le_refl _) rfl rfl rfl ?_; intro w4 i4; have HI4 := Lib.hid i4; clear i4)
        | fail)
      exact rpres rfl rfl HI4.out (by rw [HR.out]; rfl) (by rw [HR.out]; rfl)
  | some n =>
    rw [hd] at hR hdm
    have hnm := hn n hd
    replace hR : R = if n = [] then none else if n.any (fun x => nbF (b2 x)) = true then none else if endsF n = true then (match fparse n with | none => none | some v => some { H0 with kind := 3, four := v }) else some { H0 with kind := 2, name := n } := hR
    have hen := fun W => rends_any n W hnm
    have hfp := fun W => rfparse_any n W hnm
    have hbd := fun W => rbad_any n true W (by omega)
    rw [nbL_true] at hbd
    have hb2 := bldH2 n
    obtain ⟨G2, hG2⟩ : ∃ G : Hst, G = { H0 with kind := 2, name := n } := ⟨_, rfl⟩
    have hG28 : G2.six.length = 8 := by rw [hG2]; rfl
    rw [← hG2] at hb2 hR
    clear hG2
    obtain ⟨u, hu⟩ : ∃ u, u = bs n := ⟨_, rfl⟩
    change ∀ W, Calls _ _ _ W fun e w' => e = .returned (.tuple #[.string (bs n), .bool true]) ∧ Below W.heap.size W w' at hdm
    rw [← hu] at hdm hen hfp hb2 hbd
    have hue : (u.toList = []) ↔ n = [] := by rw [hu, toList_bs]
    clear hu hn hd hnm
    have HDM := Lib.hid hdm; clear hdm
    by_cases hnil : n = []
    · rw [if_pos hnil] at hR
      have he2 := hue.mpr hnil
      have he : u.toList.isEmpty = true := by rw [he2]; rfl
      have HR := Lib.hid hR; clear hR hen hfp hb2 hbd hue hnil hG28
      rcases hg with rfl | ⟨h0, X, hX, hXq, hN0⟩
      all_goals
        go_enter Tryz.func12, Tryz.ntmps12
        go_wp2_with (first
          | (refine alloc_to rfl 26 rfl _ _ (allH _) ?_)
          | (go_at_call 28; refine (HDE.out _).mono ?_; rintro e w2 ⟨v, rfl, ho2, hb2⟩; have HCV := Lib.hid (conv_own (P := Tryz.prog) (src := 37) (dst := 9) Tryz.underlying37 Tryz.underlying5 Tryz.underlying9 ho2); have hcv := HCV.out; clear ho2; have HI2 := Lib.hid (HI.out.below (Nat.le_refl _) hb2); clear hb2)
          | (go_at_call 27; refine (HDM.out _).mono ?_; rintro e w3 ⟨rfl, hb3⟩; have HI3 := Lib.hid (HI2.out.below (Nat.le_refl _) hb3); clear hb3)
          | (refine build_to rfl 26 #[] rfl (.agg (hCells H0)) #[] rfl bldH0 ?_)
          | (refine put_host rfl (.tmp 4) (.tmp 73) rfl w w.heap.size _ H0 HI3.out (Nat.le_refl _) rfl rfl rfl ?_; intro w4 i4; have HI4 := Lib.hid i4; clear i4)
          | fail)
        exact rpres rfl rfl HI4.out (by rw [HR.out]; rfl) (by rw [HR.out]; rfl)
    rw [if_neg hnil] at hR
    have he2 : ¬ u.toList = [] := fun h => hnil (hue.mp h)
    have he : u.toList.isEmpty = false := by simpa using he2
    have HFP := Lib.hid hfp; clear hfp
    have HEN := Lib.hid hen; clear hen
    have HB2 := Lib.hid hb2; clear hb2
    have HG28 := Lib.hid hG28; clear hG28
    obtain ⟨q, hq⟩ : ∃ q, q = n.any fun x => nbF (b2 x) := ⟨_, rfl⟩
    rw [← hq] at hbd hR
    clear hq hue hnil
    have HBD := Lib.hid hbd; clear hbd
    cases q with
    | true =>
      rw [if_pos rfl] at hR
      have HR := Lib.hid hR; clear hR HFP HEN HB2 HG28
      rcases hg with rfl | ⟨h0, X, hX, hXq, hN0⟩
      all_goals
        go_enter Tryz.func12, Tryz.ntmps12
        go_wp2_with (first
          | (refine alloc_to rfl 26 rfl _ _ (allH _) ?_)
          | (go_at_call 28; refine (HDE.out _).mono ?_; rintro e w2 ⟨v, rfl, ho2, hb2⟩; have HCV := Lib.hid (conv_own (P := Tryz.prog) (src := 37) (dst := 9) Tryz.underlying37 Tryz.underlying5 Tryz.underlying9 ho2); have hcv := HCV.out; clear ho2; have HI2 := Lib.hid (HI.out.below (Nat.le_refl _) hb2); clear hb2)
          | (go_at_call 27; refine (HDM.out _).mono ?_; rintro e w3 ⟨rfl, hb3⟩; have HI3 := Lib.hid (HI2.out.below (Nat.le_refl _) hb3); clear hb3)
          | (go_at_call 25; refine (HBD.out _).mono ?_; rintro e w4 ⟨rfl, hw4⟩; subst hw4)
          | (refine build_to rfl 26 #[] rfl (.agg (hCells H0)) #[] rfl bldH0 ?_)
          | (refine put_host rfl (.tmp 4) (.tmp 73) rfl w w.heap.size _ H0 HI3.out (Nat.le_refl _) rfl rfl rfl ?_; intro w4 i4; have HI4 := Lib.hid i4; clear i4)
          | fail)
        exact rpres rfl rfl HI4.out (by rw [HR.out]; rfl) (by rw [HR.out]; rfl)
    | false =>
      rw [if_neg (by simp)] at hR
      cases hef : endsF n with
      | false =>
        rw [hef, if_neg (by simp)] at hR
        rw [hef] at HEN
        have HR := Lib.hid hR; clear hR hef HFP
        rcases hg with rfl | ⟨h0, X, hX, hXq, hN0⟩
        all_goals
          go_enter Tryz.func12, Tryz.ntmps12
          go_wp2_with (first
            | (refine alloc_to rfl 26 rfl _ _ (allH _) ?_)
            | (go_at_call 28; refine (HDE.out _).mono ?_; rintro e w2 ⟨v, rfl, ho2, hb2⟩; have HCV := Lib.hid (conv_own (P := Tryz.prog) (src := 37) (dst := 9) Tryz.underlying37 Tryz.underlying5 Tryz.underlying9 ho2); have hcv := HCV.out; clear ho2; have HI2 := Lib.hid (HI.out.below (Nat.le_refl _) hb2); clear hb2)
            | (go_at_call 27; refine (HDM.out _).mono ?_; rintro e w3 ⟨rfl, hb3⟩; have HI3 := Lib.hid (HI2.out.below (Nat.le_refl _) hb3); clear hb3)
            | (go_at_call 25; refine (HBD.out _).mono ?_; rintro e w4 ⟨rfl, hw4⟩; subst hw4)
            | (go_at_call 29; refine (HEN.out _).mono ?_; rintro e w4 ⟨rfl, hb4⟩; have HI4 := Lib.hid (HI3.out.below (Nat.le_refl _) hb4); clear hb4)
            | (refine build2 rfl 0 1 (.const (.int .i64 2)) (.tmp 77) rfl (.int .i64 2) (.string u) (.agg (hCells G2)) rfl rfl HB2.out ?_)
            | (refine put_host rfl (.tmp 4) (.tmp 78) rfl w w.heap.size _ G2 HI4.out (Nat.le_refl _) HG28.out rfl rfl ?_; intro w5 i5; have HI5 := Lib.hid i5; clear i5)
            | fail)
          exact rpres rfl rfl HI5.out (by rw [HR.out]; rfl) (by rw [HR.out]; rfl)
      | true =>
        rw [hef, if_pos rfl] at hR
        rw [hef] at HEN
        clear HB2 HG28
        cases hfq : fparse n with
        | none =>
          rw [hfq] at hR HFP
          have HR := Lib.hid (show R = none from hR); clear hR hef hfq
          replace HFP := Lib.hid (show ∀ W, Calls Tryz.prog 30 #[.string u] W fun e w' => e = .returned (.tuple #[.int .u32 0, .bool false]) ∧ Below W.heap.size W w' from HFP.out)
          rcases hg with rfl | ⟨h0, X, hX, hXq, hN0⟩
          all_goals
            go_enter Tryz.func12, Tryz.ntmps12
            go_wp2_with (first
              | (refine alloc_to rfl 26 rfl _ _ (allH _) ?_)
              | (go_at_call 28; refine (HDE.out _).mono ?_; rintro e w2 ⟨v, rfl, ho2, hb2⟩; have HCV := Lib.hid (conv_own (P := Tryz.prog) (src := 37) (dst := 9) Tryz.underlying37 Tryz.underlying5 Tryz.underlying9 ho2); have hcv := HCV.out; clear ho2; have HI2 := Lib.hid (HI.out.below (Nat.le_refl _) hb2); clear hb2)
              | (go_at_call 27; refine (HDM.out _).mono ?_; rintro e w3 ⟨rfl, hb3⟩; have HI3 := Lib.hid (HI2.out.below (Nat.le_refl _) hb3); clear hb3)
              | (go_at_call 25; refine (HBD.out _).mono ?_; rintro e w4 ⟨rfl, hw4⟩; subst hw4)
              | (go_at_call 29; refine (HEN.out _).mono ?_; rintro e w4 ⟨rfl, hb4⟩; have HI4 := Lib.hid (HI3.out.below (Nat.le_refl _) hb4); clear hb4)
              | (go_at_call 30; refine (HFP.out _).mono ?_; rintro e w5 ⟨rfl, hb5⟩; have HI5 := Lib.hid (HI4.out.below (Nat.le_refl _) hb5); clear hb5)
              | (refine build_to rfl 26 #[] rfl (.agg (hCells H0)) #[] rfl bldH0 ?_)
              | (refine put_host rfl (.tmp 4) (.tmp 86) rfl w w.heap.size _ H0 HI5.out (Nat.le_refl _) rfl rfl rfl ?_; intro w6 i6; have HI6 := Lib.hid i6; clear i6)
              | fail)
            exact rpres rfl rfl HI6.out (by rw [HR.out]; rfl) (by rw [HR.out]; rfl)
        | some vf =>
          rw [hfq] at hR HFP
          have hb3 := bldH3 vf
          obtain ⟨G3, hG3⟩ : ∃ G : Hst, G = { H0 with kind := 3, four := vf } := ⟨_, rfl⟩
          have hG38 : G3.six.length = 8 := by rw [hG3]; rfl
          replace hR : R = some G3 := by rw [hR, hG3]
          rw [← hG3] at hb3
          clear hG3
          have HB3 := Lib.hid hb3; clear hb3
          have HG38 := Lib.hid hG38; clear hG38
          have HR := Lib.hid hR; clear hR hef hfq
          replace HFP := Lib.hid (show ∀ W, Calls Tryz.prog 30 #[.string u] W fun e w' => e = .returned (.tuple #[.int .u32 vf, .bool true]) ∧ Below W.heap.size W w' from HFP.out)
          rcases hg with rfl | ⟨h0, X, hX, hXq, hN0⟩
          all_goals
            go_enter Tryz.func12, Tryz.ntmps12
            go_wp2_with (first
              | (refine alloc_to rfl 26 rfl _ _ (allH _) ?_)
              | (go_at_call 28; refine (HDE.out _).mono ?_; rintro e w2 ⟨v, rfl, ho2, hb2⟩; have HCV := Lib.hid (conv_own (P := Tryz.prog) (src := 37) (dst := 9) Tryz.underlying37 Tryz.underlying5 Tryz.underlying9 ho2); have hcv := HCV.out; clear ho2; have HI2 := Lib.hid (HI.out.below (Nat.le_refl _) hb2); clear hb2)
              | (go_at_call 27; refine (HDM.out _).mono ?_; rintro e w3 ⟨rfl, hb3⟩; have HI3 := Lib.hid (HI2.out.below (Nat.le_refl _) hb3); clear hb3)
              | (go_at_call 25; refine (HBD.out _).mono ?_; rintro e w4 ⟨rfl, hw4⟩; subst hw4)
              | (go_at_call 29; refine (HEN.out _).mono ?_; rintro e w4 ⟨rfl, hb4⟩; have HI4 := Lib.hid (HI3.out.below (Nat.le_refl _) hb4); clear hb4)
              | (go_at_call 30; refine (HFP.out _).mono ?_; rintro e w5 ⟨rfl, hb5⟩; have HI5 := Lib.hid (HI4.out.below (Nat.le_refl _) hb5); clear hb5)
              | (refine build2 rfl 0 2 (.const (.int .i64 3)) (.tmp 87) rfl (.int .i64 3) (.int .u32 vf) (.agg (hCells G3)) rfl rfl HB3.out ?_)
              | (refine put_host rfl (.tmp 4) (.tmp 88) rfl w w.heap.size _ G3 HI5.out (Nat.le_refl _) HG38.out rfl rfl ?_; intro w6 i6; have HI6 := Lib.hid i6; clear i6)
              | fail)
            exact rpres rfl rfl HI6.out (by rw [HR.out]; rfl) (by rw [HR.out]; rfl)
theorem host_sp' {s : Bytes} (h : s.head? ≠ some 91) : hostP s true = nmF s := by unfold hostP; rw [if_neg h, if_pos rfl]
theorem rhparse_any (l : Bytes) (sp : Bool) (w : World) (hl : l.length ≤ 1000) : Calls Tryz.prog 12 #[.string (bs l), .bool sp] w fun e w' => e = hostE (hostP l sp) ∧ Below w.heap.size w w' := by
  by_cases h91 : l.head? = some 91
  · exact rhp_br l sp w hl h91
  · cases sp with
    | false => exact rhp_opaq l w hl h91
    | true => rw [host_sp' h91]; exact rhp_name l w hl h91
end Go.Proofs.YtgfklkfbccknoaaGreatDoor

/- Plain laws of hosts: bytes that are bad; coded bytes and large letters. -/
namespace Go.Proofs.YtgfklkfbccknoaaGreatDoor
open Go.RowKit
set_option maxRecDepth 10000

theorem cutS_has : ∀ (l : List Int) {c : Int}, c ∈ l → c ≠ 46 → ∃ q ∈ cutS l, c ∈ q
  | [], _, h, _ => by cases h
  | x :: r, c, h, hc => by
    obtain ⟨p, ps, hp⟩ := cutS_ne r
    by_cases hx : x = 46
    · subst hx
      rw [cutS, if_pos rfl]
      rcases List.mem_cons.mp h with h | h
      · exact absurd h hc
      · obtain ⟨q, hq, h2⟩ := cutS_has r h hc
        exact ⟨q, by simp [hq], h2⟩
    · rw [cutS_other hx hp]
      rcases List.mem_cons.mp h with rfl | h
      · exact ⟨c :: p, by simp, by simp⟩
      · obtain ⟨q, hq, h2⟩ := cutS_has r h hc
        rw [hp] at hq
        rcases List.mem_cons.mp hq with rfl | hq
        · exact ⟨x :: q, by simp, by simp [h2]⟩
        · exact ⟨q, by simp [hq], h2⟩
theorem joinD_has {y : UInt8} {p : Bytes} (hy : y ∈ p) : ∀ (o : Bytes) (os : List Bytes), p ∈ o :: os → y ∈ joinD (o :: os)
  | o, [], h => by
    obtain rfl : p = o := by simpa using h
    unfold joinD
    rw [Lib.join_one]; exact hy
  | o, q :: qs, h => by
    rw [joinD_cons]
    rcases List.mem_cons.mp h with rfl | h
    · exact List.mem_append_left _ hy
    · exact List.mem_append_right _ (List.mem_cons_of_mem _ (joinD_has hy q qs h))
/-- a sign below 80 stands in what comes of its piece -/
theorem out_keep {q : List Int} (hq : ∀ c ∈ q, mapF c = (enc c, 1) ∧ Utf8.valid c = true ∧ c ≠ 46) (hok : okP (joinF q) = true) {x : UInt8} (h8 : b2 x < 0x80) (hx : b2 x ∈ q) : x ∈ outP (joinF q) := by
  have hv : ∀ c ∈ q, Utf8.valid c = true := fun c hc => (hq c hc).2.1
  have hsl := signs_join' hv
  obtain ⟨y, hy⟩ : ∃ y, wrF (joinF q) = some y := by
    unfold okP at hok
    exact Option.isSome_iff_exists.mp hok
  have ho : outP (joinF q) = y := by unfold outP; rw [hy]; rfl
  rw [ho]
  cases hl : lowS (joinF q)
  · have hp : Lib.hasPrefix (joinF q) pre4 = false := by
      cases hp : Lib.hasPrefix (joinF q) pre4
      · rfl
      · rw [wr_1 hp hl] at hy; cases hy
    have hla : labF (signs (joinF q)) = true := by
      cases hla : labF (signs (joinF q))
      · rw [wr_5 hp hl hla] at hy; cases hy
      · rfl
    rw [wr_6 hp hl hla, hsl] at hy
    rw [hsl] at hla
    have hlen : q.length ≤ 255 ∧ encR q = (encF q, true) := by
      unfold encR at hy ⊢
      split at hy
      · simp at hy
      · next h =>
        rw [if_neg h]
        exact ⟨by omega, rfl⟩
    rw [hlen.2] at hy
    simp only [if_true] at hy
    have hyy : y = pre4 ++ encF q := (Option.some.inj hy).symm
    obtain ⟨_, hs, _⟩ := enc_ok hla hlen.1
    obtain ⟨W, e, _⟩ := encF_parts hs hlen.1
    rw [hyy, e]
    refine List.mem_append_right _ (List.mem_append_left _ (List.mem_append_left _ ?_))
    unfold bas
    refine List.mem_map.mpr ⟨b2 x, List.mem_filter.mpr ⟨hx, decide_eq_true (by omega)⟩, ?_⟩
    have : (b2 x).toNat = x.toNat := by unfold b2; simp
    rw [this, UInt8.ofNat_toNat]
  · have hyp : y = joinF q := by
      cases hp : Lib.hasPrefix (joinF q) pre4
      · rw [wr_4 hp hl] at hy; exact (Option.some.inj hy).symm
      · cases hd : decF ((joinF q).drop 4) with
        | none => rw [wr_2 hp hl hd] at hy; cases hy
        | some l =>
          rw [wr_3 hp hl hd] at hy
          split at hy
          · exact (Option.some.inj hy).symm
          · cases hy
    rw [hyp]
    refine List.mem_flatMap.mpr ⟨b2 x, hx, ?_⟩
    rw [enc_asc h8]; simp
theorem signs_mid (a : Bytes) {x : UInt8} (b : Bytes) (h : b2 x < 0x80) : signs (a ++ x :: b) = signs a ++ b2 x :: signs b := by
  rw [signs_app (x :: b) (.inr ⟨x, b, rfl, .inl h⟩) a, signs_asc b h]
/-- a sign below 80 that is no large letter stands in the name -/
theorem dom_keep {a b n : Bytes} {x : UInt8} (h8 : b2 x < 0x80) (hu : ¬ (65 ≤ b2 x ∧ b2 x ≤ 90)) (hd : b2 x ≠ 46) (h : domF (a ++ x :: b) = some n) : x ∈ n := by
  rw [dom_signs, signs_mid a b h8] at h
  unfold domS at h
  split at h
  · split at h
    · next hok =>
      have ht := (Option.some.inj h).symm
      rw [told_join] at ht hok
      have hms := msL_ok (signs a ++ b2 x :: signs b)
      have hx : b2 x ∈ msL (signs a ++ b2 x :: signs b) := by
        unfold msL
        refine List.mem_flatMap.mpr ⟨b2 x, by simp, ?_⟩
        have e := map_low (b2_lt x).1 h8 hu
        unfold msF
        rw [e]; simp
      generalize msL (signs a ++ b2 x :: signs b) = m at *
      have hv : ∀ c ∈ m, Utf8.valid c = true := fun c hc => (hms c hc).2
      rw [cut_signs m hv] at ht hok
      obtain ⟨q, hq, hxq⟩ := cutS_has m hx hd
      have ho := List.all_eq_true.mp hok (joinF q) (List.mem_map.mpr ⟨q, hq, rfl⟩)
      have hk := out_keep (q := q) (fun c hc => by have hm := cutS_mem m q hq c hc; exact ⟨(hms c hm.1).1, (hms c hm.1).2, hm.2⟩) ho h8 hxq
      obtain ⟨o, os, hos⟩ : ∃ o os, ((cutS m).map joinF).map outP = o :: os := by
        obtain ⟨p, ps, hp⟩ := cutS_ne m
        rw [hp]; exact ⟨_, _, rfl⟩
      rw [ht, hos]
      refine joinD_has hk o os ?_
      rw [← hos]
      exact List.mem_map.mpr ⟨_, List.mem_map.mpr ⟨q, hq, rfl⟩, rfl⟩
    · cases h
  · cases h
theorem bad_facts : ∀ k : Fin 256, badF (b2 (UInt8.ofNat k.val)) = true → b2 (UInt8.ofNat k.val) ≠ 37 ∧ dgt (b2 (UInt8.ofNat k.val)) 16 < 0 ∧ b2 (UInt8.ofNat k.val) < 0x80 ∧ ¬ (65 ≤ b2 (UInt8.ofNat k.val) ∧ b2 (UInt8.ofNat k.val) ≤ 90) ∧ b2 (UInt8.ofNat k.val) ≠ 46 := by decide +kernel
theorem bad_is {x : UInt8} (h : badF (b2 x) = true) : b2 x ≠ 37 ∧ dgt (b2 x) 16 < 0 ∧ b2 x < 0x80 ∧ ¬ (65 ≤ b2 x ∧ b2 x ≤ 90) ∧ b2 x ≠ 46 := by
  have := bad_facts ⟨x.toNat, x.toNat_lt⟩
  simp only [UInt8.ofNat_toNat] at this
  exact this h
theorem head_app {a : Bytes} (h : a ≠ []) (t : Bytes) : (a ++ t).head? = a.head? := by
  cases a with
  | nil => exact absurd rfl h
  | cons x r => rfl
theorem nm_bad {s a b : Bytes} {x : UInt8} (h : badF (b2 x) = true) (e : pdF s = a ++ x :: b) : nmF s = none := by
  obtain ⟨_, _, h8, hu, hd⟩ := bad_is h
  unfold nmF
  rw [e]
  cases hn : domF (a ++ x :: b) with
  | none => rfl
  | some n =>
    have := dom_keep h8 hu hd hn
    dsimp only
    split
    · rfl
    · rw [if_pos]
      refine List.any_eq_true.mpr ⟨x, this, ?_⟩
      unfold nbF
      rw [h]; rfl
/-- HostBad -/
theorem bad_plain {a b : Bytes} {x : UInt8} (h : badF (b2 x) = true) (ha : a ≠ []) (h91 : a.head? ≠ some 91) (sp : Bool) : hostP (a ++ x :: b) sp = none := by
  unfold hostP
  rw [head_app ha, if_neg h91]
  cases sp with
  | true =>
    rw [if_pos rfl]
    obtain ⟨h37, hd, _⟩ := bad_is h
    exact nm_bad h (pd_mid h37 hd b _ a (Nat.le_refl _))
  | false =>
    rw [if_neg (by simp), if_neg (by simp), if_pos]
    exact List.any_eq_true.mpr ⟨x, by simp, h⟩
theorem bad_coded {a b : Bytes} {x u v : UInt8} (h : badF (b2 x) = true) (ha : a ≠ []) (h91 : a.head? ≠ some 91) (hu : 0 ≤ dgt (b2 u) 16) (hv : 0 ≤ dgt (b2 v) 16) (e : UInt8.ofNat (pdV u v).toNat = x) : hostP (a ++ 37 :: u :: v :: b) true = none := by
  unfold hostP
  rw [head_app ha, if_neg h91, if_pos rfl]
  refine nm_bad (a := pdF a) (b := pdF b) h ?_
  rw [pd_code hu hv b _ a (Nat.le_refl _), e]
/-- large letters -/
theorem low_big {x : UInt8} (h : ¬ b2 x < 0x80) : lowB x = x := lowB_other (by omega)
theorem low_small {x : UInt8} (h : b2 x < 0x80) : b2 (lowB x) < 0x80 := by
  by_cases h2 : 65 ≤ b2 x ∧ b2 x ≤ 90
  · rw [lowB_large h2]; omega
  · rw [lowB_other h2]; exact h
theorem map_lower {x : UInt8} (h : b2 x < 0x80) : (mapF (b2 (lowB x))).1 = (mapF (b2 x)).1 ∧ okM (b2 (lowB x)) = okM (b2 x) := by
  by_cases h2 : 65 ≤ b2 x ∧ b2 x ≤ 90
  · rw [lowB_large h2]
    have e1 : toF (b2 x) = [b2 x + 0x20] := by unfold toF; rw [if_pos (by omega)]
    have e2 := mapF_to (c := b2 x) (by rw [e1]; simp)
    have e3 := map_low (c := b2 x + 32) (by omega) (by omega) (by omega)
    rw [e1] at e2
    unfold okM
    rw [e2, e3]
    refine ⟨?_, by simp⟩
    simp [joinF]
  · rw [lowB_other h2]; exact ⟨rfl, rfl⟩
theorem signs_lower : ∀ (n : Nat) (s : Bytes), s.length ≤ n → toldF (signs (s.map lowB)) = toldF (signs s) ∧ (signs (s.map lowB)).all okM = (signs s).all okM := by
  intro n
  induction n with
  | zero =>
    intro s h
    obtain rfl : s = [] := List.eq_nil_of_length_eq_zero (by omega)
    exact ⟨rfl, rfl⟩
  | succ n ih =>
    intro s h
    have hp : ∀ (p : Bytes), (∀ y ∈ p, ¬ b2 y < 0x80) → p.map lowB = p := fun p hp => by
      conv => rhs; rw [← List.map_id p]
      exact List.map_congr_left fun y hy => low_big (hp y hy)
    by_cases hall : ∀ y ∈ s, ¬ b2 y < 0x80
    · rw [hp s hall]; exact ⟨rfl, rfl⟩
    · have : ∃ p x r, s = p ++ x :: r ∧ (∀ y ∈ p, ¬ b2 y < 0x80) ∧ b2 x < 0x80 := by
        clear ih h
        induction s with
        | nil => exact absurd (by simp) hall
        | cons z t ih2 =>
          by_cases hz : b2 z < 0x80
          · exact ⟨[], z, t, rfl, by simp, hz⟩
          · obtain ⟨p, x, r, e, h1, h2⟩ := ih2 (fun hc => hall fun y hy => by
              rcases List.mem_cons.mp hy with rfl | hy
              · exact hz
              · exact hc y hy)
            refine ⟨z :: p, x, r, by rw [e]; rfl, fun y hy => ?_, h2⟩
            rcases List.mem_cons.mp hy with rfl | hy
            · exact hz
            · exact h1 y hy
      obtain ⟨p, x, r, rfl, h1, h2⟩ := this
      obtain ⟨i1, i2⟩ := ih r (by simp at h; omega)
      obtain ⟨m1, m2⟩ := map_lower h2
      rw [List.map_append, List.map_cons, hp p h1, signs_mid p _ (low_small h2), signs_mid p _ h2]
      have et : ∀ (c : Int) (l : List Int), toldF (c :: l) = (mapF c).1 ++ toldF l := fun c l => by simp [toldF]
      rw [told_app, told_app, et, et, i1, m1]
      refine ⟨rfl, ?_⟩
      rw [List.all_append, List.all_append, List.all_cons, List.all_cons, i2, m2]
theorem dom_lower (s : Bytes) : domF (s.map lowB) = domF s := by
  obtain ⟨h1, h2⟩ := signs_lower _ s (Nat.le_refl _)
  rw [dom_signs, dom_signs]
  unfold domS
  rw [h1, h2]
theorem low_37 {x : UInt8} (h : b2 x ≠ 37) : b2 (lowB x) ≠ 37 := by
  by_cases h2 : 65 ≤ b2 x ∧ b2 x ≤ 90
  · rw [lowB_large h2]; omega
  · rw [lowB_other h2]; exact h
theorem low_91 {x : UInt8} (h : x ≠ 91) : lowB x ≠ 91 := by
  intro e
  by_cases h2 : 65 ≤ b2 x ∧ b2 x ≤ 90
  · have := lowB_large h2
    rw [e] at this
    have e91 : b2 91 = 91 := by decide
    omega
  · rw [lowB_other h2] at e; exact h e
theorem host_sp {s : Bytes} (h : s.head? ≠ some 91) : hostP s true = nmF s := by
  unfold hostP
  rw [if_neg h, if_pos rfl]
theorem nm_of {s t : Bytes} (h : domF (pdF s) = domF (pdF t)) : nmF s = nmF t := by
  unfold nmF
  rw [h]
/-- HostCoded -/
theorem coded_low {s : Bytes} (h : ∀ y ∈ s, b2 y ≠ 37) (h91 : s.head? ≠ some 91) : hostP (s.map lowB) true = hostP s true := by
  rw [host_sp h91, host_sp]
  · refine nm_of ?_
    rw [pd_none h, pd_none, dom_lower]
    intro y hy
    obtain ⟨x, hx, rfl⟩ := List.mem_map.mp hy
    exact low_37 (h x hx)
  · cases s with
    | nil => simp
    | cons x r =>
      simp only [List.map_cons, List.head?_cons, ne_eq, Option.some.injEq]
      exact low_91 (fun e => h91 (by rw [e]; rfl))
theorem coded_all {s : Bytes} {f g : UInt8 → UInt8} (hf : ∀ x, 0 ≤ dgt (b2 (f x)) 16 ∧ 0 ≤ dgt (b2 (g x)) 16 ∧ UInt8.ofNat (pdV (f x) (g x)).toNat = x) (h : ∀ y ∈ s, b2 y ≠ 37) (h91 : s.head? ≠ some 91) : hostP (s.flatMap fun x => [37, f x, g x]) true = hostP s true := by
  rw [host_sp h91, host_sp]
  · refine nm_of ?_
    rw [pd_all hf, pd_none h]
  · cases s with
    | nil => simp
    | cons x r => simp
end Go.Proofs.YtgfklkfbccknoaaGreatDoor

/- Plain laws of hosts: what is written is short, and of bytes that may be. -/
namespace Go.Proofs.YtgfklkfbccknoaaGreatDoor
open Go.RowKit
set_option maxRecDepth 10000

theorem hexd_byte : ∀ k : Fin 16, 32 < b2 (hexd k.val) ∧ b2 (hexd k.val) ≤ 126 := by decide +kernel
theorem hex_byte (u : Nat) : ∀ y ∈ hexF u, 32 < b2 y ∧ b2 y ≤ 126 := by
  induction u using Nat.strongRecOn with
  | ind u ih =>
    intro y hy
    by_cases h : u < 16
    · rw [hex_small h] at hy
      obtain rfl : y = hexd u := by simpa using hy
      exact hexd_byte ⟨u, h⟩
    · rw [hex_big h] at hy
      rcases List.mem_append.mp hy with hy | hy
      · exact ih (u / 16) (by omega) y hy
      · obtain rfl : y = hexd (u % 16) := by simpa using hy
        exact hexd_byte ⟨u % 16, by omega⟩
theorem six_byte (a : List Int) : ∀ y ∈ sixF a, 32 < b2 y ∧ b2 y ≤ 126 := by
  intro y hy
  unfold sixF rendA at hy
  obtain ⟨t, _, hy⟩ := List.mem_flatMap.mp hy
  have e58 : b2 58 = 58 := by decide
  unfold rendT at hy
  split at hy
  · obtain rfl : y = 58 := by simpa using hy
    omega
  · split at hy
    · obtain rfl : y = 58 := by simpa using hy
      omega
    · exact hex_byte _ y hy
theorem Z8_ok : ∀ n ∈ Z8, 0 ≤ n ∧ n < 65536 := by decide
theorem hkind_ok {s : Bytes} {sp : Bool} {h : Hst} (e : HKind s sp h) : HstOk h := by
  cases e with
  | six a h8 ha hs => exact ⟨by simp, by simp [H0], h8, ha⟩
  | name n e hs hd hn hb he => exact ⟨by simp, by simp [H0], rfl, Z8_ok⟩
  | four n e hs h => exact ⟨by simp, ⟨by simp, by simp only; omega⟩, rfl, Z8_ok⟩
  | empty e h => exact ⟨by simp, by simp [H0], rfl, Z8_ok⟩
  | opaq e hs h hb => exact ⟨by simp, by simp [H0], rfl, Z8_ok⟩
theorem H0_ok : HstOk H0 := ⟨by simp [H0], by simp [H0], rfl, Z8_ok⟩
theorem told_dom {b t : Bytes} (hd : domF b = some t) : toldF (signs t) = t := by
  obtain ⟨h1, h2⟩ := dom_once hd
  have hj := all_low_join (fun y hy => (h1 y hy).1)
  have hmap : ∀ c ∈ t.map b2, mapF c = (enc c, 1) ∧ Utf8.valid c = true := by
    intro c hc
    obtain ⟨y, hy, rfl⟩ := List.mem_map.mp hc
    have h3 := h1 y hy
    have h0 := b2_lt y
    exact ⟨map_low h0.1 h3.1 h3.2, (valid_iff _).mpr (by omega)⟩
  have hsg : signs t = t.map b2 := by
    conv => lhs; rw [hj]
    exact signs_join' (fun c hc => (hmap c hc).2)
  rw [hsg, (told_same (m := t.map b2) (fun c hc => (hmap c hc).1)).1, ← hj]
theorem dom_short {l n : Bytes} (hl : l.length ≤ 300) (hd : domF (pdF l) = some n) : n.length ≤ 30000 := by
  have h1 := pdF_len _ l (Nat.le_refl _)
  have h2 := told_len (signs (pdF l))
  have h3 := signs_len _ (pdF l) (Nat.le_refl _)
  have h4 := dom_len2 hd
  omega
theorem pc_len0 (s : Bytes) : (pcB 0 s).length ≤ 3 * s.length := pcB_len 0 s
theorem back_len {s : Bytes} {sp : Bool} {h : Hst} (e : HKind s sp h) (hs : s.length ≤ 300) : (hostF h).length ≤ 30000 := by
  cases e with
  | six a h8 ha _ =>
    have hf : hostF { H0 with kind := 4, six := a } = [91] ++ sixF a ++ [93] := rfl
    rw [hf]
    have := sixF_len a ha
    simp only [List.length_append, List.length_cons, List.length_nil]; omega
  | name n e _ hd hn hb he => exact dom_short hs hd
  | four n e _ h =>
    have hf : hostF { H0 with kind := 3, four := (n : Int) } = fourF n := rfl
    rw [hf]
    have := fourF_len n h
    omega
  | empty e h => exact Nat.zero_le _
  | opaq e _ h hb =>
    have hf : hostF { H0 with kind := 5, name := pcB 0 s } = pcB 0 s := rfl
    rw [hf]
    have := pc_len0 s
    omega
theorem back_short {s : Bytes} {sp : Bool} {h : Hst} (e : HKind s sp h) (hs : s.length ≤ 300) : Short (hostF h) := by
  cases e with
  | six a h8 ha _ =>
    have hf : hostF { H0 with kind := 4, six := a } = [91] ++ sixF a ++ [93] := rfl
    rw [hf]
    have := sixF_len a ha
    refine short_of ?_
    simp only [List.length_append, List.length_cons, List.length_nil]; omega
  | name n e _ hd hn hb he =>
    have hf : hostF { H0 with kind := 2, name := n } = n := rfl
    rw [hf]
    have hl := dom_short hs hd
    have hp : pdF n = n := pd_none (fun y hy e => (nb_bad (hb y hy)).2 (by omega))
    refine ⟨by omega, ?_, fun m hm => ?_⟩
    · rw [hp, told_dom hd]; omega
    · rw [hp, (dom_once hd).2] at hm
      injection hm with hm
      rw [← hm]; omega
  | four n e _ h =>
    have hf : hostF { H0 with kind := 3, four := (n : Int) } = fourF n := rfl
    rw [hf]
    have := fourF_len n h
    exact short_of (by omega)
  | empty e h => exact short_of (Nat.zero_le _)
  | opaq e _ h hb =>
    have hf : hostF { H0 with kind := 5, name := pcB 0 s } = pcB 0 s := rfl
    rw [hf]
    have := pc_len0 s
    exact short_of (by omega)
/-- the bytes of what is written of a host that was read -/
theorem back_byte {s : Bytes} {sp : Bool} {h : Hst} (e : hostP s sp = some h) : ∀ y ∈ hostF h, (32 < b2 y ∧ b2 y ≤ 126) ∧ (h.kind = 4 ∨ badF (b2 y) = false) := by
  intro y hy
  by_cases hk : h.kind = 4
  · refine ⟨?_, .inl hk⟩
    rw [hst_six h hk] at hy
    have e91 : b2 91 = 91 := by decide
    have e93 : b2 93 = 93 := by decide
    simp only [List.mem_append, List.mem_singleton] at hy
    rcases hy with (rfl | hy) | rfl
    · omega
    · exact six_byte _ y hy
    · omega
  · obtain ⟨h1, h2, h3⟩ := (host_back e).2.1 hk y hy
    exact ⟨⟨h1, h2⟩, .inr h3⟩
end Go.Proofs.YtgfklkfbccknoaaGreatDoor
