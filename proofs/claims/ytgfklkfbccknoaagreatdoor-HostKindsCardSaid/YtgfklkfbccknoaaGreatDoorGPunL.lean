/- The reference's Decode of layer 7. -/
import Derived.Test.YtgfklkfbccknoaaGreatDoorGPunJ
import Derived.Test.YtgfklkfbccknoaaGreatDoorGGlu
namespace Go.Proofs.YtgfklkfbccknoaaGreatDoor
open Go.RowKit
set_option maxRecDepth 10000

/-- where the last hyphen stands behind the first byte and ahead of the k-th, or 0 -/
def Cut (s : Bytes) (k c : Nat) : Prop := (c = 0 ∧ ∀ j (h : j < s.length), 1 ≤ j → j < k → b2 s[j] ≠ 45) ∨ (1 ≤ c ∧ c < k ∧ (∃ h : c < s.length, b2 s[c] = 45) ∧ ∀ j (h : j < s.length), c < j → j < k → b2 s[j] ≠ 45)
theorem Cut.new {s : Bytes} {k c : Nat} (_ : Cut s k c) (hk : 1 ≤ k) (hx : k < s.length) (he : b2 s[k] = 45) : Cut s (k + 1) k :=
  .inr ⟨hk, by omega, ⟨hx, he⟩, fun j _ h1 h2 => by omega⟩
theorem Cut.same {s : Bytes} {k c : Nat} (h : Cut s k c) (hx : k < s.length) (he : b2 s[k] ≠ 45) : Cut s (k + 1) c := by
  rcases h with ⟨h1, h2⟩ | ⟨h1, h2, h3, h4⟩
  · refine .inl ⟨h1, fun j hj h5 h6 => ?_⟩
    by_cases hjk : j = k
    · subst hjk; exact he
    · exact h2 j hj h5 (by omega)
  · refine .inr ⟨h1, by omega, h3, fun j hj h5 h6 => ?_⟩
    by_cases hjk : j = k
    · subst hjk; exact he
    · exact h4 j hj h5 (by omega)
theorem Cut.done {s : Bytes} {k c : Nat} (h : Cut s k c) (hk : s.length ≤ k) : (c = 0 ∧ hyAt s ≤ 0) ∨ (0 < c ∧ hyAt s = c ∧ c < s.length) := by
  have hat : ∀ j (hj : j < s.length), (((bs s).data[j]!).toNat : Int) = b2 s[j] := fun j hj => byte_at s j hj
  unfold hyAt Lib.lastIndexByte
  rcases Lib.lastIdx_spec (bs s) 45 (bs s).size with ⟨e, hn⟩ | ⟨i, hi, e, hc, hn⟩
  · rw [bs_size] at hn
    rcases h with ⟨h1, _⟩ | ⟨h1, h2, ⟨h3, h4⟩, _⟩
    · exact .inl ⟨h1, by rw [bs_size] at e ⊢; omega⟩
    · exact absurd ((hat c h3).trans h4) (hn c h3)
  · rw [bs_size] at hi hn
    rw [hat i hi] at hc
    rcases h with ⟨h1, h2⟩ | ⟨h1, h2, ⟨h3, h4⟩, h5⟩
    · left
      refine ⟨h1, ?_⟩
      rw [e]
      by_cases h0 : 1 ≤ i
      · exact absurd hc (h2 i hi h0 (by omega))
      · omega
    · right
      refine ⟨by omega, ?_, h3⟩
      rw [e]
      by_cases h6 : c < i
      · exact absurd hc (h5 i hi h6 (by omega))
      · by_cases h7 : i < c
        · exact absurd ((hat c h3).trans h4) (hn c h7 h3)
        · omega
/-- what is read where more than 255 signs may stand -/
def decQ (f : Nat) (s : Bytes) (l : List Int) (p n bias : Int) (first : Bool) : Option (List Int) := if 255 < l.length then none else decGo f s l p n bias first
theorem decQ_zero {f : Nat} {s : Bytes} {l : List Int} {p n bias : Int} {first : Bool} (h : ¬ s.length = 0) (hk : (rd s bias).2 = 0) : decQ (f + 1) s l p n bias first = none := by
  unfold decQ; split
  · rfl
  · rw [decGo_more f h, if_pos hk]
theorem decQ_bad {f : Nat} {s : Bytes} {l : List Int} {p n bias : Int} {first : Bool} (h : ¬ s.length = 0) (hk : ¬ (rd s bias).2 = 0) (hb : 255 ≤ l.length ∨ sg (n + (p + (rd s bias).1) / (l.length + 1)) = false) : decQ (f + 1) s l p n bias first = none := by
  unfold decQ; split
  · rfl
  · rw [decGo_more f h, if_neg hk, if_pos]
    rcases hb with hb | hb
    · left; omega
    · right; rw [hb]; simp
theorem decQ_more {f : Nat} {s : Bytes} {l : List Int} {p n bias : Int} {first : Bool} (h : ¬ s.length = 0) (hk : ¬ (rd s bias).2 = 0) (hl : l.length < 255) (hb : sg (n + (p + (rd s bias).1) / (l.length + 1)) = true) (hq : ((p + (rd s bias).1) % (l.length + 1)).toNat ≤ l.length) :
    decQ (f + 1) s l p n bias first = decQ f (s.drop (rd s bias).2.toNat) (l.take ((p + (rd s bias).1) % (l.length + 1)).toNat ++ (n + (p + (rd s bias).1) / (l.length + 1)) :: l.drop ((p + (rd s bias).1) % (l.length + 1)).toNat)
      ((p + (rd s bias).1) % (l.length + 1) + 1) (n + (p + (rd s bias).1) / (l.length + 1)) (nb (rd s bias).1 (l.length + 1) first) false := by
  unfold decQ
  rw [if_neg (by omega), if_neg (by rw [ins_len _ _ _ hq]; omega), decGo_more f h, if_neg hk, if_neg (by rw [hb]; simp; omega)]
theorem decQ_end {f : Nat} {s : Bytes} {l : List Int} {p n bias : Int} {first : Bool} (h : s.length = 0) : decQ f s l p n bias first = if 255 < l.length then none else some l := by
  unfold decQ; split
  · rfl
  · rw [decGo_end f h]
theorem decQ_start {s : Bytes} {c : Nat} (h : (c = 0 ∧ hyAt s ≤ 0) ∨ (0 < c ∧ hyAt s = c ∧ c < s.length)) (hall : ∀ y ∈ s.take c, b2 y < 128) :
    decF s = decQ s.length (s.drop (if c = 0 then 0 else c + 1)) ((s.take c).map b2) 0 128 72 true := by
  unfold decF decQ
  rcases h with ⟨rfl, h⟩ | ⟨h0, h, hl⟩
  · rw [if_neg (by omega), if_pos rfl, if_neg (by simp)]; rfl
  · have hlen : ((s.take c).map b2).length = c := by rw [List.length_map, List.length_take]; omega
    rw [h, if_pos (by omega), hlen, if_neg (by omega : ¬ c = 0), Int.toNat_natCast]
    by_cases h5 : 255 < c
    · rw [if_pos (by omega), if_pos h5]
    · rw [if_neg (by omega), if_neg h5, if_pos (List.all_eq_true.mpr fun y hy => decide_eq_true (hall y hy))]
theorem decF_bad {s : Bytes} {c : Nat} (h : (c = 0 ∧ hyAt s ≤ 0) ∨ (0 < c ∧ hyAt s = c ∧ c < s.length)) {y : UInt8} (hy : y ∈ s.take c) (hb : 128 ≤ b2 y) : decF s = none := by
  unfold decF
  rcases h with ⟨rfl, h⟩ | ⟨h0, h, hl⟩
  · simp at hy
  · rw [h, if_pos (by omega)]
    split
    · rfl
    · rw [Int.toNat_natCast, if_neg]
      intro ha
      have := of_decide_eq_true (List.all_eq_true.mp ha y hy)
      omega
theorem i64s_one (l : List Int) : ∀ u ∈ I64s l, u.oneCell' = true := by intro u hu; simp at hu; obtain ⟨_, _, rfl⟩ := hu; rfl

set_option maxHeartbeats 8000000 in
theorem rdecode_any (s0 : Bytes) (w : World) (hs : s0.length ≤ 100000) :
    Calls Tryz.prog 81 #[.string (bs s0)] w fun e w' => RetD w (decF s0) e w' := by
  obtain ⟨i0, hi0, hz0, hz1, hz2⟩ := info_parts i64_info
  obtain ⟨T, hT⟩ : ∃ T, T = decF s0 := ⟨_, rfl⟩
  rw [← hT]
  have HT := Lib.hid hT; clear hT
  obtain ⟨s, hss⟩ : ∃ s, s = bs s0 := ⟨_, rfl⟩
  have hsz : s.size = s0.length := by rw [hss, bs_size]
  obtain ⟨L, hL⟩ : ∃ L, L = s0.length := ⟨_, rfl⟩
  rw [← hL] at hs hsz
  rw [← hss]
  have HL := Lib.hid hL; clear hL
  have HS := Lib.hid hss; clear hss
  go_enter Tryz.func81, Tryz.ntmps81
  go_wp2_with fail
  go_loopw [5, 6] (fun cv iv wr => ∃ (k c : Nat), 1 ≤ k ∧ (k ≤ L ∨ k = 1) ∧ iv = .int .i64 k ∧ cv = .int .i64 c ∧ Cut s0 k c ∧ w = wr) (fun _ i _ => L - (intOf i).toNat)
  case atStart => exact ⟨1, 0, Nat.le_refl _, .inr rfl, rfl, rfl, .inl ⟨rfl, fun j _ h1 h2 => by omega⟩, rfl⟩
  case round =>
    obtain ⟨k, c, hk1, hkL, rfl, rfl, hcut, rfl⟩ := hrel
    by_cases hlt : k < L
    · have hk2 : k < s.size := by omega
      have hx : k < s0.length := by rw [← HL.out]; omega
      have hxe : ((s[k]'hk2).toNat : Int) = b2 s0[k] := str_at HS.out hk2 hx
      have hnew := fun h => hcut.new hk1 hx h
      have hsame := fun h => hcut.same hx h
      rw [← hxe] at hnew hsame
      clear hxe hcut
      have HN := Lib.hid hnew; clear hnew
      have HSM := Lib.hid hsame; clear hsame
      by_cases he : ((s[k]'hk2).toNat : Int) = 45
      · have he2 : (((s[k]'hk2).toNat : Int) == 45) = true := by simp [he]
        go_wp2_with fail
        go_roundw
        case rel => exact ⟨k + 1, k, by omega, .inl (by omega), by simp, by simp, HN.out he, trivial⟩
        case measure => simp [intOf]; omega
      · have he2 : (((s[k]'hk2).toNat : Int) == 45) = false := by simp [he]
        go_wp2_with fail
        go_roundw
        case rel => exact ⟨k + 1, c, by omega, .inl (by omega), by simp, by simp, HSM.out he, trivial⟩
        case measure => simp [intOf]; omega
    · have hcd := hcut.done (by rw [← HL.out]; omega)
      clear hcut
      have hcb : c = 0 ∨ c < L := by have := HL.out; omega
      have HC := Lib.hid hcd; clear hcd
      go_wp2_with fail
      go_loopw [4, 7] (fun lv iv wr => ∃ (k : Nat), k ≤ c ∧ iv = .int .i64 k ∧ wr.ownsRow w.heap.size 3 1 lv k (I64s ((s0.take k).map b2)) ∧ (∀ y ∈ s0.take k, b2 y < 128) ∧ w.heap.size ≤ wr.heap.size ∧ Below w.heap.size w wr) (fun _ i _ => c - (intOf i).toNat)
      case atStart => exact ⟨0, Nat.zero_le _, rfl, World.ownsRow_nil _ _ _ _, by simp, Nat.le_refl _, Below.refl _ _⟩
      case round =>
        obtain ⟨j, hj, rfl, hown, hall, hwz, hbel⟩ := hrel
        have HO := Lib.hid hown; clear hown
        have HA := Lib.hid hall; clear hall
        have HB := Lib.hid hbel; clear hbel
        by_cases hlt2 : j < c
        · have hk2 : j < s.size := by omega
          have hx : j < s0.length := by rw [← HL.out]; omega
          have hxe : ((s[j]'hk2).toNat : Int) = b2 s0[j] := str_at HS.out hk2 hx
          have hx8 := b2_lt s0[j]
          have hstep := all_snoc2 hx HA.out
          have hsn : I64s ((s0.take (j + 1)).map b2) = I64s ((s0.take j).map b2) ++ [.int .i64 ((s[j]'hk2).toNat : Int)] := by
            rw [List.take_succ_eq_append_getElem hx, List.map_append, hxe]; simp
          have hmem : s0[j] ∈ s0.take c := by
            rw [List.mem_take_iff_getElem]
            exact ⟨j, by omega, rfl⟩
          have hbad : 128 ≤ ((s[j]'hk2).toNat : Int) → T = none := by
            intro h
            rw [HT.out]
            exact decF_bad HC.out hmem (by rw [← hxe]; exact h)
          rw [← hxe] at hx8 hstep
          have HSN := Lib.hid hsn; clear hsn
          have HST := Lib.hid hstep; clear hstep
          have HBAD := Lib.hid hbad; clear hbad hmem
          have hw : IntKind.i64.wrap ((s[j]'hk2).toNat : Int) = ((s[j]'hk2).toNat : Int) := IntWalk.i64_in _ (by omega)
          clear hxe
          have hcs : ((s[j]'hk2).toNat : Int) ≤ 127 ∨ 127 < ((s[j]'hk2).toNat : Int) := by omega
          rcases hcs with hc3 | hc3
          · go_wp2_with (at_builtin; (refine push1 rfl (.tmp 36) (.tmp 41) _ rfl w.heap.size 3 i0 (.int .i64 0) 8 Tryz.underlying64 hi0 hz0 hz1 hz2 (by decide) _ _ j (I64s ((s0.take j).map b2)) rfl HO.out (.int .i64 ((s[j]'hk2).toNat : Int)) rfl rfl (by omega) (by decide) hwz ?_); intro v2 w2 hown2 hw2 hb2; have HO2 := Lib.hid hown2; clear hown2; have HB2 := Lib.hid hb2; clear hb2)
            go_roundw
            case rel => exact ⟨j + 1, by omega, by simp, by rw [HSN.out]; exact HO2.out, HST.out (by omega), by omega, HB.out.trans HB2.out⟩
            case measure => simp [intOf]; omega
          · have hno := HBAD.out (by omega)
            have HNO := Lib.hid hno; clear hno
            go_wp2_with fail
            go_ret2
            exact RetD.none HNO.out hwz HB.out
        · obtain rfl : j = c := by omega
          have hT := decQ_start HC.out HA.out
          rw [← HT.out] at hT
          have HT3 := Lib.hid hT; clear hT
          have hlen : ((s0.take j).map b2).length = j := by rw [List.length_map, List.length_take, ← HL.out]; omega
          have HLN := Lib.hid hlen; clear hlen
          obtain ⟨q0, hq0⟩ : ∃ q0 : Nat, q0 = if j = 0 then 0 else j + 1 := ⟨_, rfl⟩
          have hq0L : q0 ≤ L := by rw [hq0]; split <;> omega
          rw [← hq0] at HT3
          have hj0 : (j = 0 ∧ q0 = 0) ∨ (0 < j ∧ q0 = j + 1) := by rw [hq0]; split <;> omega
          clear hq0
          have HOW := Lib.hid HO.out
          obtain ⟨l0, hl0⟩ : ∃ l0, l0 = (s0.take j).map b2 := ⟨_, rfl⟩
          rw [← hl0] at HT3 HLN HOW
          clear hl0
          rcases hj0 with ⟨rfl, hq⟩ | ⟨h0, hq⟩
          all_goals
            have HQ := Lib.hid hq; clear hq
            go_wp2_with fail
            go_loopw [4, 5, 8, 9, 10, 11] (fun lv cv pv nv bv fv wr => ∃ (f q : Nat) (l : List Int) (p n bi : Int) (fi : Bool), cv = .int .i64 q ∧ pv = .int .i64 p ∧ nv = .int .i64 n ∧ bv = .int .i64 bi ∧ fv = .bool fi ∧
                wr.ownsRow w.heap.size 3 1 lv l.length (I64s l) ∧ T = decQ f (s0.drop q) l p n bi fi ∧ q ≤ L ∧ L - q ≤ f ∧ f ≤ 100000 ∧ l.length ≤ 100000 ∧ 0 ≤ p ∧ p ≤ 256 ∧ 128 ≤ n ∧ n ≤ 1114111 ∧ 0 ≤ bi ∧ bi ≤ 2400 ∧ w.heap.size ≤ wr.heap.size ∧ Below w.heap.size w wr) (fun _ cv _ _ _ _ _ => L - (intOf cv).toNat)
            case atStart => exact ⟨L, q0, l0, 0, 128, 72, true, by rw [HQ.out]; simp, rfl, rfl, rfl, rfl, by rw [HLN.out]; exact HOW.out, by rw [HL.out]; exact HT3.out, hq0L, by omega, hs, by rw [HLN.out]; omega, by omega, by omega, by omega, by omega, by omega, by omega, hwz, HB.out⟩
            case round =>
              obtain ⟨f, q, l, p, n, bi, fi, rfl, rfl, rfl, rfl, rfl, hown, hT3, hqL, hqf, hf1, hll, hp0, hp1, hn0, hn1, hb0, hb1, hwz, hbel⟩ := hrel
              have HO := Lib.hid hown; clear hown
              have HB := Lib.hid hbel; clear hbel
              obtain ⟨m, hm⟩ : ∃ m : Nat, m = l.length := ⟨_, rfl⟩
              rw [← hm] at hll
              have hlen : l.length = m := hm.symm
              have HM := Lib.hid hm; clear hm
              obtain ⟨al, cl, hv⟩ := slice_val (Sl.of_own HO.out)
              rw [show (I64s l).length = m by rw [List.length_map, hlen]] at hv
              subst hv
              by_cases hq : q < L
              · cases f with
                | zero => omega
                | succ g =>
                  have ht : ¬ (s0.drop q).length = 0 := by rw [List.length_drop, ← HL.out]; omega
                  have hdr := drop_str s0 q
                  rw [← HS.out, hsz] at hdr
                  have hrr := rd_range (s0.drop q) bi
                  rw [List.length_drop, ← HL.out] at hrr
                  have hra := fun W => number_any (bs (s0.drop q)) bi W (by rw [bs_size, List.length_drop, ← HL.out]; omega) (by omega)
                  rw [ls_bs] at hra
                  have hz := fun h => decQ_zero (f := g) (l := l) (p := p) (n := n) (first := fi) ht (bias := bi) h
                  have hbd := fun h h' => decQ_bad (f := g) (l := l) (p := p) (n := n) (first := fi) ht (bias := bi) h h'
                  have hmr := fun h h' h2 h3 => decQ_more (f := g) (l := l) (p := p) (n := n) (first := fi) ht (bias := bi) h h' h2 h3
                  rw [← hT3] at hz hbd hmr
                  rw [hlen] at hbd hmr
                  rw [List.drop_drop] at hmr
                  obtain ⟨d, hd'⟩ : ∃ d, d = (rd (s0.drop q) bi).1 := ⟨_, rfl⟩
                  obtain ⟨k, hk'⟩ : ∃ k, k = (rd (s0.drop q) bi).2 := ⟨_, rfl⟩
                  rw [← hd', ← hk'] at hrr hra hbd hmr
                  rw [← hk'] at hz
                  clear hd' hk' ht hT3
                  have HZ := Lib.hid hz; clear hz
                  have HBD := Lib.hid hbd; clear hbd
                  have HMR := Lib.hid hmr; clear hmr
                  have HRA := Lib.hid hra; clear hra
                  by_cases hk0 : k = 0
                  · have hT3 := HZ.out hk0
                    have HT3 := Lib.hid hT3; clear hT3
                    subst hk0
                    go_wp2_with (first
                      | (go_at_call 109; refine (HRA.out _).mono ?_; rintro e w2 ⟨rfl, rfl⟩)
                      | fail)
                    go_ret2
                    exact RetD.none HT3.out hwz HB.out
                  · have hq1 : Int.tdiv (p + d) (m + 1) = (p + d) / (m + 1) := tdiv_pos (by omega)
                    have hq2 : Int.tmod (p + d) (m + 1) = (p + d) % (m + 1) := Int.tmod_eq_emod_of_nonneg (by omega)
                    have hq3 : 0 ≤ (p + d) / (m + 1) ∧ (p + d) / (m + 1) ≤ p + d := ⟨Int.ediv_nonneg (by omega) (by omega), Int.ediv_le_self _ (by omega)⟩
                    have hq4 : 0 ≤ (p + d) % (m + 1) ∧ (p + d) % (m + 1) < m + 1 := ⟨Int.emod_nonneg _ (by omega), Int.emod_lt_of_pos _ (by omega)⟩
                    obtain ⟨dv, hdv⟩ : ∃ dv, dv = (p + d) / ((m : Int) + 1) := ⟨_, rfl⟩
                    obtain ⟨qn, hqn⟩ : ∃ qn : Nat, (p + d) % ((m : Int) + 1) = (qn : Int) := ⟨((p + d) % ((m : Int) + 1)).toNat, (Int.toNat_of_nonneg hq4.1).symm⟩
                    rw [← hdv] at hq1 hq3 HBD HMR
                    rw [hqn] at hq2 hq4 HMR
                    rw [Int.toNat_natCast] at HMR
                    clear hdv hqn
                    have hsa := fun W => rSign_any (n + dv) W
                    have hcs : (sg (n + dv) = false) ∨ (sg (n + dv) = true ∧ 255 ≤ m) ∨ (sg (n + dv) = true ∧ m < 255) := by
                      cases hq : sg (n + dv)
                      · exact .inl rfl
                      · right; simp only [true_and]; omega
                    rcases hcs with hsg | ⟨hsg, hc⟩ | ⟨hsg, hc⟩
                    · have hT3 := HBD.out hk0 (.inr hsg)
                      rw [hsg] at hsa
                      have HSA := Lib.hid hsa; clear hsa hsg
                      have HT3 := Lib.hid hT3; clear hT3
                      go_wp2_with (first
                        | (go_at_call 109; refine (HRA.out _).mono ?_; rintro e w2 ⟨rfl, rfl⟩)
                        | (go_at_call 110; refine (HSA.out _).mono ?_; rintro e w2 ⟨rfl, rfl⟩)
                        | fail)
                      go_ret2
                      exact RetD.none HT3.out hwz HB.out
                    · have hT3 := HBD.out hk0 (.inl hc)
                      rw [hsg] at hsa
                      have HSA := Lib.hid hsa; clear hsa hsg
                      have HT3 := Lib.hid hT3; clear hT3
                      go_wp2_with (first
                        | (go_at_call 109; refine (HRA.out _).mono ?_; rintro e w2 ⟨rfl, rfl⟩)
                        | (go_at_call 110; refine (HSA.out _).mono ?_; rintro e w2 ⟨rfl, rfl⟩)
                        | fail)
                      go_ret2
                      exact RetD.none HT3.out hwz HB.out
                    · have hT3 := HMR.out hk0 hc hsg (by omega)
                      have hsr := (sg_iff.mp hsg)
                      rw [hsg] at hsa
                      have HSA := Lib.hid hsa; clear hsa hsg
                      have HT3 := Lib.hid hT3; clear hT3
                      have hil := ins_len l (n + dv) qn (by omega)
                      have hsl := Sl.of_own HO.out
                      obtain ⟨vA, hA1, hA2⟩ := cut_h (P := Tryz.prog) (t := 64) Tryz.underlying64 hi0 hz1 hsl (by rw [List.length_map, hlen]) qn (by omega)
                      obtain ⟨vB, hB1, hB2⟩ := cut_l (P := Tryz.prog) (t := 64) Tryz.underlying64 hi0 hz1 hsl (by rw [List.length_map, hlen]) qn (by omega)
                      obtain ⟨v1, w1, v2, w2, v3, w3, r1, r2, r3, ho3, hz3, hb3⟩ := glue_ins (P := Tryz.prog) wr 64 64 3 i0 (.int .i64 0) 8 Tryz.underlying64 hi0 hz0 hz1 hz2 (by decide) rfl (I64s (l.take qn)) (I64s (l.drop qn)) (.int .i64 (n + dv))
                        (i64s_one _) (i64s_one _) rfl (by simp; omega) vA vB (by rw [← List.map_take] at hA2; exact hA2) (by rw [← List.map_drop] at hB2; exact hB2)
                      have e3 : I64s (l.take qn) ++ .int .i64 (n + dv) :: I64s (l.drop qn) = I64s (l.take qn ++ (n + dv) :: l.drop qn) := by simp
                      rw [e3] at ho3
                      have HB3 := Lib.hid (HB.out.trans (hb3.mono hwz)); clear hb3
                      have HSR := Lib.hid hsr.2.1; clear hsr
                      rw [hlen] at hil
                      obtain ⟨l2, hl2⟩ : ∃ l2, l2 = l.take qn ++ (n + dv) :: l.drop qn := ⟨_, rfl⟩
                      rw [← hl2] at hil ho3 HT3
                      clear hl2 hsl hA2 hB2 e3
                      have ho4 : w3.ownsRow w.heap.size 3 1 v3 l2.length (I64s l2) := by
                        have e := ho3.1
                        rw [show (I64s l2).length = l2.length by simp] at e
                        have e2 : (I64s (l.take qn)).length + 1 + (I64s (l.drop qn)).length = l2.length := by omega
                        rw [e2] at ho3
                        refine ⟨ho3.1, ?_⟩
                        rcases ho3.2 with h | ⟨g, cap, cur, a1, a2, a3⟩
                        · exact .inl h
                        · exact .inr ⟨g, cap, cur, a1, by omega, a3⟩
                      have HO3 := Lib.hid ho4; clear ho3 ho4
                      have HIL := Lib.hid hil; clear hil
                      have HR1 := Lib.hid r1; have HR2 := Lib.hid r2; have HR3 := Lib.hid r3
                      clear r1 r2 r3
                      have HZ3 := Lib.hid hz3; clear hz3
                      go_wp2_with (first
                        | (go_at_call 109; refine (HRA.out _).mono ?_; rintro e w5 ⟨rfl, rfl⟩)
                        | (go_at_call 110; refine (HSA.out _).mono ?_; rintro e w5 ⟨rfl, rfl⟩)
                        | (go_at_call 111; refine (adapt_any d (m + 1) fi _ (by omega) (by omega)).mono ?_; rintro e w4 ⟨rfl, rfl⟩)
                        | (at_builtin; first
                            | (refine append_run rfl (.tmp 86) (.tmp 89) _ _ rfl _ _ _ _ rfl rfl HR1.out ?_)
                            | (refine append_run rfl (.tmp 91) (.tmp 93) _ _ rfl _ _ _ _ rfl rfl HR2.out ?_)
                            | (refine append_run rfl (.tmp 95) (.tmp 98) _ _ rfl _ _ _ _ rfl rfl HR3.out ?_))
                        | fail)
                      have hnb := nb_range (d := d) (n := (m : Int) + 1) fi hrr.1 (by omega)
                      have HNB := Lib.hid hnb; clear hnb
                      go_roundw
                      case rel =>
                        refine ⟨g, q + k.toNat, l2, qn + 1, n + dv, nb d (m + 1) fi, false, by rw [show ((q + k.toNat : Nat) : Int) = q + k by omega], by simp, rfl, rfl, rfl, HO3.out, HT3.out, by omega, by omega, by omega, by rw [HIL.out]; omega, by omega, by omega, by omega, HSR.out, HNB.out.1, HNB.out.2, by have := HZ3.out; omega, HB3.out⟩
                      case measure => simp [intOf]; omega
              · obtain rfl : q = L := by omega
                rw [decQ_end (by rw [List.length_drop, ← HL.out]; omega), hlen] at hT3
                have hcs : 255 < m ∨ m ≤ 255 := by omega
                rcases hcs with hc | hc
                · rw [if_pos hc] at hT3
                  have HT4 := Lib.hid hT3; clear hT3
                  go_wp2_with fail
                  go_ret2
                  exact RetD.none HT4.out hwz HB.out
                · rw [if_neg (by omega)] at hT3
                  have HT4 := Lib.hid hT3; clear hT3
                  go_wp2_with fail
                  go_ret2
                  exact RetD.some HT4.out hlen.symm (hlen ▸ HO.out) hwz HB.out
end Go.Proofs.YtgfklkfbccknoaaGreatDoor
