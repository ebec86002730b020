/- puny.Decode. -/
import Derived.Test.YtledmlgebfbhaaaDoorPunH
import Derived.Test.YtledmlgebfbhaaaDoorPunJ
namespace Go.Proofs.YtledmlgebfbhaaaDoor
open Go.RowKit
set_option maxRecDepth 10000

/-- the row whose numbers stand in s: l so far, the place, the sign, the bias, is it the first number -/
def decGo : Nat → Bytes → List Int → Int → Int → Int → Bool → Option (List Int)
  | 0, s, l, _, _, _, _ => if s.length = 0 then some l else none
  | f + 1, s, l, p, n, bias, first =>
    if s.length = 0 then some l
    else if (rd s bias).2 = 0 then none
    else if l.length = 255 ∨ ¬ sg (n + (p + (rd s bias).1) / (l.length + 1)) = true then none
    else decGo f (s.drop (rd s bias).2.toNat) (l.take ((p + (rd s bias).1) % (l.length + 1)).toNat ++ (n + (p + (rd s bias).1) / (l.length + 1)) :: l.drop ((p + (rd s bias).1) % (l.length + 1)).toNat)
      ((p + (rd s bias).1) % (l.length + 1) + 1) (n + (p + (rd s bias).1) / (l.length + 1)) (nb (rd s bias).1 (l.length + 1) first) false
theorem decGo_end (f : Nat) {s : Bytes} (h : s.length = 0) {l : List Int} {p n bias : Int} {first : Bool} : decGo f s l p n bias first = some l := by
  cases f with
  | zero => unfold decGo; rw [if_pos h]
  | succ f => unfold decGo; rw [if_pos h]
theorem decGo_more (f : Nat) {s : Bytes} (h : ¬ s.length = 0) {l : List Int} {p n bias : Int} {first : Bool} : decGo (f + 1) s l p n bias first =
    if (rd s bias).2 = 0 then none
    else if l.length = 255 ∨ ¬ sg (n + (p + (rd s bias).1) / (l.length + 1)) = true then none
    else decGo f (s.drop (rd s bias).2.toNat) (l.take ((p + (rd s bias).1) % (l.length + 1)).toNat ++ (n + (p + (rd s bias).1) / (l.length + 1)) :: l.drop ((p + (rd s bias).1) % (l.length + 1)).toNat)
      ((p + (rd s bias).1) % (l.length + 1) + 1) (n + (p + (rd s bias).1) / (l.length + 1)) (nb (rd s bias).1 (l.length + 1) first) false := by
  rw [decGo, if_neg h]
theorem all_snoc2 {l : Bytes} {k : Nat} (h : k < l.length) (ha : ∀ y ∈ l.take k, b2 y < 128) (hx : b2 l[k] < 128) : ∀ y ∈ l.take (k + 1), b2 y < 128 := by
  rw [List.take_succ_eq_append_getElem h]
  intro y hy
  rcases List.mem_append.mp hy with h | h
  · exact ha y h
  · simp at h; subst h; exact hx
/-- where the last hyphen stands -/
def hyAt (s : Bytes) : Int := Lib.lastIndexByte (bs s) 45
def decF (s : Bytes) : Option (List Int) :=
  if 0 < hyAt s then
    if 255 < hyAt s then none
    else if (s.take (hyAt s).toNat).all (fun x => decide (b2 x < 128)) then decGo s.length (s.drop ((hyAt s).toNat + 1)) ((s.take (hyAt s).toNat).map b2) 0 128 72 true else none
  else decGo s.length s [] 0 128 72 true
theorem hyAt_range (s : Bytes) : hyAt s = -1 ∨ ∃ k : Nat, k < s.length ∧ hyAt s = k := by
  unfold hyAt Lib.lastIndexByte
  rcases Lib.lastIdx_spec (bs s) 45 (bs s).size with ⟨h, _⟩ | ⟨i, h1, h2, _⟩
  · exact .inl h
  · exact .inr ⟨i, by rwa [bs_size] at h1, h2⟩
/-- what a function answers that makes a row, if there is one -/
def RetD (w : World) (o : Option (List Int)) : Ending → World → Prop := fun en w' =>
  ∃ v, en = .returned (.tuple #[v, .bool o.isSome]) ∧ w'.ownsRow w.heap.size 3 1 v (o.getD []).length (I64s (o.getD [])) ∧ w.heap.size ≤ w'.heap.size ∧ Below w.heap.size w w'
theorem RetD.none {w w' : World} {o : Option (List Int)} (h : o = none) (hz : w.heap.size ≤ w'.heap.size) (hb : Below w.heap.size w w') : RetD w o (.returned (.tuple #[.slice Option.none 0 0, .bool false])) w' := by
  subst h
  exact ⟨_, rfl, World.ownsRow_nil _ _ _ _, hz, hb⟩
theorem RetD.some {w w' : World} {o : Option (List Int)} {l : List Int} {v : Value} {n : Nat} (h : o = some l) (hn : n = l.length) (ho : w'.ownsRow w.heap.size 3 1 v n (I64s l)) (hz : w.heap.size ≤ w'.heap.size) (hb : Below w.heap.size w w') :
    RetD w o (.returned (.tuple #[v, .bool true])) w' := by
  subst h; subst hn
  exact ⟨_, rfl, ho, hz, hb⟩
theorem rdGo_len : ∀ (l : Bytes) (j : Nat) (s w b : Int), (rdGo l j s w b).2 = 0 ∧ (rdGo l j s w b).1 = 0 ∨ (j : Int) + 1 ≤ (rdGo l j s w b).2 ∧ (rdGo l j s w b).2 ≤ j + l.length ∧ (rdGo l j s w b).1 ≤ 2147483647
  | [], _, _, _, _ => .inl ⟨rfl, rfl⟩
  | x :: r, j, s, w, b => by
    unfold rdGo
    simp only
    split
    · exact .inl ⟨rfl, rfl⟩
    split
    · exact .inl ⟨rfl, rfl⟩
    split
    · right
      simp only [List.length_cons]
      omega
    · have := rdGo_len r (j + 1) (s + wrt (b2 x) * w) (w * (36 - bnd j b)) b
      simp only [List.length_cons]
      omega
theorem rdGo_pos : ∀ (l : Bytes) (j : Nat) (s w b : Int), 0 ≤ s → 0 ≤ w → 0 ≤ (rdGo l j s w b).1
  | [], _, _, _, _, _, _ => Int.le_refl _
  | x :: r, j, s, w, b, hs, hw => by
    unfold rdGo
    simp only
    split
    · exact Int.le_refl _
    · have h1 := wrt_range (b2 x)
      have h2 : 0 ≤ wrt (b2 x) * w := Int.mul_nonneg (by omega) hw
      have h3 := bnd_range j b
      split
      · exact Int.le_refl _
      split
      · show 0 ≤ s + _; omega
      · exact rdGo_pos r (j + 1) _ _ b (by omega) (Int.mul_nonneg hw (by omega))
theorem rd_range (s : Bytes) (b : Int) : 0 ≤ (rd s b).1 ∧ (rd s b).1 ≤ 2147483647 ∧ 0 ≤ (rd s b).2 ∧ (rd s b).2 ≤ s.length := by
  have h1 := rdGo_len s 0 0 1 b
  have h2 := rdGo_pos s 0 0 1 b (by omega) (by omega)
  unfold rd
  omega
/-- the length of a string's value -/
def lenS : Value → Nat
  | .string s => s.size
  | _ => 0
theorem drop_str (t : Bytes) (n : Nat) : (bs t).extract n (bs t).size = bs (t.drop n) := by
  rw [bs_extract, bs_size]
  congr 1
  exact List.take_of_length_le (by rw [List.length_drop]; exact Nat.le_refl _)

set_option maxHeartbeats 400000 in
theorem decode_core (s0 : Bytes) (w : World) (hs : s0.length ≤ 100000) :
    Calls Tryd.prog 20 #[.string (bs s0)] w fun e w' => RetD w (decF s0) e w' := by
  obtain ⟨i0, hi0, hz0, hz1, hz2⟩ := info_parts i64_info
  obtain ⟨T, hT⟩ : ∃ T, T = decF s0 := ⟨_, rfl⟩
  rw [← hT]
  have hi := hyAt_range s0
  have hlib := fun W => Any.strings_LastIndexByte Tryd.laysLib (bs s0) 45 (by rw [bs_size]; omega) W
  unfold decF at hT
  obtain ⟨h, hh⟩ : ∃ h, h = hyAt s0 := ⟨_, rfl⟩
  have hlib2 : ∀ W, Calls Tryd.prog 38 #[.string (bs s0), .int .u8 45] W fun e w' => e = .returned (.int .i64 h) ∧ w' = W := by rw [hh]; exact hlib
  rw [← hh] at hT hi
  have HT := Lib.hid hT; clear hT
  have HLIB := Lib.hid hlib2; clear hlib2 hlib hh
  obtain ⟨s, hss⟩ : ∃ s, s = bs s0 := ⟨_, rfl⟩
  have hsz : s.size = s0.length := by rw [hss, bs_size]
  obtain ⟨L, hL⟩ : ∃ L, L = s0.length := ⟨_, rfl⟩
  rw [← hL] at hs hsz hi
  rw [← hss]
  rw [← hss] at HLIB
  have HL := Lib.hid hL; clear hL
  have HS := Lib.hid hss; clear hss
  have hc : h ≤ 0 ∨ (0 < h ∧ 255 < h) ∨ (0 < h ∧ h ≤ 255) := by omega
  rcases hc with hc | ⟨hc, hd⟩ | ⟨hc, hd⟩
  · have hT := HT.out
    rw [if_neg (by omega)] at hT
    have HT2 := Lib.hid hT; clear hT HT
    go_enter Tryd.func20, Tryd.ntmps20
    go_wp2_with (first
      | (go_at_call 38; refine (HLIB.out _).mono ?_; rintro e w2 ⟨rfl, hw2⟩; subst w2)
      | fail)
    go_loopw [0, 4, 7, 8, 9, 10] (fun sv lv pv nv bv fv wr => ∃ (f : Nat) (t : Bytes) (l : List Int) (p n bi : Int) (fi : Bool), sv = .string (bs t) ∧ pv = .int .i64 p ∧ nv = .int .i64 n ∧ bv = .int .i64 bi ∧ fv = .bool fi ∧
        wr.ownsRow w.heap.size 3 1 lv l.length (I64s l) ∧ T = decGo f t l p n bi fi ∧ t.length ≤ f ∧ f ≤ 100000 ∧ l.length ≤ 255 ∧ 0 ≤ p ∧ p ≤ 256 ∧ 128 ≤ n ∧ n ≤ 1114111 ∧ 0 ≤ bi ∧ bi ≤ 2400 ∧ w.heap.size ≤ wr.heap.size ∧ Below w.heap.size w wr) (fun sv _ _ _ _ _ _ => lenS sv)
    case atStart => exact ⟨L, s0, [], 0, 128, 72, true, by rw [HS.out], rfl, rfl, rfl, rfl, World.ownsRow_nil _ _ _ _, by rw [HL.out]; exact HT2.out, by rw [HL.out]; exact Nat.le_refl _, hs, by simp, by omega, by omega, by omega, by omega, by omega, by omega, Nat.le_refl _, Below.refl _ _⟩
    case round =>
      obtain ⟨f, t, l, p, n, bi, fi, rfl, rfl, rfl, rfl, rfl, hown, hT3, htf, hf1, hll, hp0, hp1, hn0, hn1, hb0, hb1, hwz, hbel⟩ := hrel
      have HO := Lib.hid hown; clear hown
      have HB := Lib.hid hbel; clear hbel
      by_cases ht : t.length = 0
      · rw [decGo_end f ht] at hT3
        have hemp : (bs t).toList.isEmpty = true := by rw [toList_bs, List.eq_nil_of_length_eq_zero ht]; rfl
        have HT3 := Lib.hid hT3; clear hT3
        clear ht htf
        go_wp2
        go_ret2
        exact RetD.some HT3.out rfl HO.out hwz HB.out
      · cases f with
        | zero => omega
        | succ g =>
          rw [decGo_more g ht] at hT3
          have hemp : (bs t).toList.isEmpty = false := by
            rw [toList_bs]
            cases t with
            | nil => simp at ht
            | cons y r => rfl
          have hrr := rd_range t bi
          have hra := fun W => read_any (bs t) bi W (by rw [bs_size]; omega) (by omega)
          rw [ls_bs] at hra
          have hdr := drop_str t (rd t bi).2.toNat
          obtain ⟨d, hd'⟩ : ∃ d, d = (rd t bi).1 := ⟨_, rfl⟩
          obtain ⟨k, hk'⟩ : ∃ k, k = (rd t bi).2 := ⟨_, rfl⟩
          rw [← hd', ← hk'] at hT3 hrr hra
          rw [← hk'] at hdr
          clear hd' hk'
          have htl : (bs t).size = t.length := bs_size t
          obtain ⟨tl, htl'⟩ : ∃ tl, tl = t.length := ⟨_, rfl⟩
          rw [← htl'] at htl htf hrr
          have HTL := Lib.hid htl'; clear htl' ht
          have HRA := Lib.hid hra; clear hra
          by_cases hk0 : k = 0
          · rw [if_pos hk0] at hT3
            have HT3 := Lib.hid hT3; clear hT3 hdr
            subst hk0
            go_wp2_with (first
              | (go_at_call 39; refine (HRA.out _).mono ?_; rintro e w2 ⟨rfl, rfl⟩)
              | fail)
            go_ret2
            exact RetD.none HT3.out hwz HB.out
          · rw [if_neg hk0] at hT3
            have hex : (bs t).extract k.toNat (bs t).size = bs (t.drop k.toNat) := hdr
            clear hdr
            obtain ⟨m, hm⟩ : ∃ m : Nat, m = l.length := ⟨_, rfl⟩
            rw [← hm] at hT3 hll
            have hlen : l.length = m := hm.symm
            have HM := Lib.hid hm; clear hm
            have hq1 : Int.tdiv (p + d) (m + 1) = (p + d) / (m + 1) := tdiv_pos (by omega)
            have hq2 : Int.tmod (p + d) (m + 1) = (p + d) % (m + 1) := Int.tmod_eq_emod_of_nonneg (by omega)
            have hq3 : 0 ≤ (p + d) / (m + 1) ∧ (p + d) / (m + 1) ≤ p + d := ⟨Int.ediv_nonneg (by omega) (by omega), Int.ediv_le_self _ (by omega)⟩
            have hq4 : 0 ≤ (p + d) % (m + 1) ∧ (p + d) % (m + 1) < m + 1 := ⟨Int.emod_nonneg _ (by omega), Int.emod_lt_of_pos _ (by omega)⟩
            obtain ⟨dv, hdv⟩ : ∃ dv, dv = (p + d) / ((m : Int) + 1) := ⟨_, rfl⟩
            obtain ⟨qn, hqn⟩ : ∃ qn : Nat, (p + d) % ((m : Int) + 1) = (qn : Int) := ⟨((p + d) % ((m : Int) + 1)).toNat, (Int.toNat_of_nonneg hq4.1).symm⟩
            rw [← hdv] at hq1 hq3 hT3
            rw [hqn] at hq2 hq4 hT3
            rw [Int.toNat_natCast] at hT3
            clear hdv hqn
            obtain ⟨al, cl, hv⟩ := slice_val (Sl.of_own HO.out)
            rw [show (I64s l).length = m by rw [List.length_map, hlen]] at hv
            subst hv
            have hex2 : (bs t).extract k.toNat tl = bs (t.drop k.toNat) := by rw [← htl]; exact hex
            have hsa := fun W => isSign_any (n + dv) W
            have hcs : m = 255 ∨ (m < 255 ∧ sg (n + dv) = false) ∨ (m < 255 ∧ sg (n + dv) = true) := by
              by_cases h5 : m = 255
              · exact .inl h5
              · cases hq : sg (n + dv)
                · exact .inr (.inl ⟨by omega, rfl⟩)
                · exact .inr (.inr ⟨by omega, rfl⟩)
            rcases hcs with hc | ⟨hc, hsg⟩ | ⟨hc, hsg⟩
            · rw [if_pos (.inl hc)] at hT3
              have HT3 := Lib.hid hT3; clear hT3 hsa
              subst hc
              go_wp2_with (first
                | (go_at_call 39; refine (HRA.out _).mono ?_; rintro e w2 ⟨rfl, rfl⟩)
                | fail)
              go_ret2
              exact RetD.none HT3.out hwz HB.out
            · rw [if_pos (.inr (by rw [hsg]; simp))] at hT3
              rw [hsg] at hsa
              have HSA := Lib.hid hsa; clear hsa hsg
              have HT3 := Lib.hid hT3; clear hT3
              go_wp2_with (first
                | (go_at_call 39; refine (HRA.out _).mono ?_; rintro e w2 ⟨rfl, rfl⟩)
                | (go_at_call 40; refine (HSA.out _).mono ?_; rintro e w2 ⟨rfl, rfl⟩)
                | fail)
              go_ret2
              exact RetD.none HT3.out hwz HB.out
            · rw [if_neg (by rw [hsg]; simp; omega)] at hT3
              have hsr := (sg_iff.mp hsg)
              rw [hsg] at hsa
              have HSA := Lib.hid hsa; clear hsa hsg
              have HT3 := Lib.hid hT3; clear hT3
              have hil := ins_len l (n + dv) qn (by omega)
              have hin := insert_any l (n + dv) qn _ w.heap.size wr HO.out hwz (by omega) (by omega)
              have HIN := Lib.hid hin; clear hin
              have HSR := Lib.hid hsr.2.1; clear hsr
              rw [hlen] at hil
              obtain ⟨l2, hl2⟩ : ∃ l2, l2 = l.take qn ++ (n + dv) :: l.drop qn := ⟨_, rfl⟩
              rw [← hl2] at hil HIN HT3
              clear hl2
              have HIL := Lib.hid hil; clear hil
              go_wp2_with (first
                | (go_at_call 39; refine (HRA.out _).mono ?_; rintro e w2 ⟨rfl, rfl⟩)
                | (go_at_call 40; refine (HSA.out _).mono ?_; rintro e w2 ⟨rfl, rfl⟩)
                | (go_at_call 41; refine (HIN.out).mono ?_; rintro e w3 ⟨v3, rfl, ho3, hz3, hb3⟩; have HO3 := Lib.hid ho3; have HZ3 := Lib.hid hz3; clear hz3; have HB3 := Lib.hid hb3; clear hb3; obtain ⟨al3, cl3, hv3⟩ := slice_val (Sl.of_own ho3); rw [show (I64s l2).length = m + 1 by rw [List.length_map]; exact HIL.out] at hv3; subst hv3; clear ho3)
                | (go_at_call 42; refine (nextBias_any d (m + 1) fi _ (by omega) (by omega)).mono ?_; rintro e w4 ⟨rfl, rfl⟩)
                | fail)
              have hnb := nb_range (d := d) (n := (m : Int) + 1) fi hrr.1 (by omega)
              have HNB := Lib.hid hnb; clear hnb
              go_roundw
              case rel =>
                refine ⟨g, t.drop k.toNat, l2, qn + 1, n + dv, nb d (m + 1) fi, false, rfl, rfl, rfl, rfl, rfl, by rw [HIL.out]; have := HO3.out; rw [HIL.out] at this; exact this, HT3.out, ?_, by omega, by rw [HIL.out]; omega, by omega, by omega, by omega, HSR.out, HNB.out.1, HNB.out.2, by have := HZ3.out; omega, HB.out.trans HB3.out⟩
                rw [List.length_drop, ← HTL.out]
                omega
              case measure =>
                have e := HTL.out
                show (bs (t.drop k.toNat)).size < (bs t).size
                rw [bs_size, bs_size, List.length_drop]
                omega
  · have hT := HT.out
    rw [if_pos (by omega), if_pos (by omega)] at hT
    have HT2 := Lib.hid hT; clear hT HT
    go_enter Tryd.func20, Tryd.ntmps20
    go_wp2_with (first
      | (go_at_call 38; refine (HLIB.out _).mono ?_; rintro e w2 ⟨rfl, hw2⟩; subst w2)
      | fail)
    go_ret2
    exact RetD.none HT2.out (Nat.le_refl _) (Below.refl _ _)
  · have hT := HT.out
    rw [if_pos (by omega), if_neg (by omega)] at hT
    obtain ⟨k0, hk0, hkh⟩ : ∃ k0 : Nat, k0 < L ∧ h = k0 := by
      rcases hi with hi | ⟨k0, h1, h2⟩
      · omega
      · exact ⟨k0, h1, h2⟩
    have htn : h.toNat = k0 := by omega
    have htn2 : (h + 1).toNat = k0 + 1 := by omega
    have hhl : h + 1 ≤ L := by omega
    rw [htn] at hT
    have HT2 := Lib.hid hT; clear hT HT hi
    have hex : s.extract (k0 + 1) L = bs (s0.drop (k0 + 1)) := by
      have := drop_str s0 (k0 + 1)
      rw [← HS.out, hsz] at this
      exact this
    rw [← htn2] at hex
    have HEX := Lib.hid hex; clear hex htn
    have HTN := Lib.hid htn2; clear htn2
    have HKH := Lib.hid hkh; clear hkh
    go_enter Tryd.func20, Tryd.ntmps20
    go_wp2_with (first
      | (go_at_call 38; refine (HLIB.out _).mono ?_; rintro e w2 ⟨rfl, hw2⟩; subst w2)
      | fail)
    go_loopw [4, 20] (fun lv iv wr => ∃ (k : Nat), k ≤ k0 ∧ iv = .int .i64 k ∧ wr.ownsRow w.heap.size 3 1 lv k (I64s ((s0.take k).map b2)) ∧ (∀ y ∈ s0.take k, b2 y < 128) ∧ w.heap.size ≤ wr.heap.size ∧ Below w.heap.size w wr) (fun _ i _ => k0 - (intOf i).toNat)
    case atStart => exact ⟨0, Nat.zero_le _, rfl, World.ownsRow_nil _ _ _ _, by simp, Nat.le_refl _, Below.refl _ _⟩
    case round =>
      obtain ⟨k, hk, rfl, hown, hall, hwz, hbel⟩ := hrel
      have HO := Lib.hid hown; clear hown
      have HA := Lib.hid hall; clear hall
      have HB := Lib.hid hbel; clear hbel
      by_cases hlt : (k : Int) < h
      · have hlt2 : k < k0 := by have := HKH.out; omega
        have hk2 : k < s.size := by omega
        have hx : k < s0.length := by rw [← HL.out]; omega
        have hxe : ((s[k]'hk2).toNat : Int) = b2 s0[k] := str_at HS.out hk2 hx
        have hx8 := b2_lt s0[k]
        rw [← hxe] at hx8
        have hsn : I64s ((s0.take (k + 1)).map b2) = I64s ((s0.take k).map b2) ++ [.int .i64 ((s[k]'hk2).toNat : Int)] := by
          rw [List.take_succ_eq_append_getElem hx, List.map_append, hxe]; simp
        have HSN := Lib.hid hsn; clear hsn
        have hmem : s0[k] ∈ s0.take k0 := by
          rw [List.mem_take_iff_getElem]
          exact ⟨k, by omega, rfl⟩
        have hstep := all_snoc2 hx HA.out
        rw [← hxe] at hstep
        have HST := Lib.hid hstep; clear hstep
        have hw : IntKind.i64.wrap ((s[k]'hk2).toNat : Int) = ((s[k]'hk2).toNat : Int) := IntWalk.i64_in _ (by omega)
        have hcs : ((s[k]'hk2).toNat : Int) < 128 ∨ 128 ≤ ((s[k]'hk2).toNat : Int) := by omega
        rcases hcs with hc3 | hc3
        · clear hxe hmem
          go_wp2_with (at_builtin; (refine push1 rfl (.tmp 27) (.tmp 32) _ rfl w.heap.size 3 i0 (.int .i64 0) 8 Tryd.underlying22 hi0 hz0 hz1 hz2 (by decide) _ _ k (I64s ((s0.take k).map b2)) rfl HO.out (.int .i64 ((s[k]'hk2).toNat : Int)) rfl rfl (by omega) (by decide) hwz ?_); intro v2 w2 hown2 hw2 hb2; have HO2 := Lib.hid hown2; clear hown2; have HB2 := Lib.hid hb2; clear hb2)
          go_roundw
          case rel => exact ⟨k + 1, hlt2, by simp, by rw [HSN.out]; exact HO2.out, HST.out hc3, by omega, HB.out.trans HB2.out⟩
          case measure => simp [intOf]; omega
        · have hno : T = none := by
            rw [HT2.out, if_neg]
            intro ha
            have := of_decide_eq_true (List.all_eq_true.mp ha _ hmem)
            omega
          have HNO := Lib.hid hno; clear hno hxe hmem
          go_wp2
          go_ret2
          exact RetD.none HNO.out hwz HB.out
      · obtain rfl : k0 = k := by have := HKH.out; omega
        have hT := HT2.out
        rw [if_pos (List.all_eq_true.mpr fun y hy => decide_eq_true (HA.out y hy))] at hT
        have HT3 := Lib.hid hT; clear hT HT2
        have hlen : ((s0.take k0).map b2).length = k0 := by rw [List.length_map, List.length_take, ← HL.out]; omega
        have hown0 := HO.out
        have HLN := Lib.hid hlen; clear hlen
        have HOW := Lib.hid hown0; clear hown0
        have hex := HEX.out
        have HBA := Lib.hid HB.out
        have hwa := hwz
        go_wp2
        go_loopw [0, 4, 7, 8, 9, 10] (fun sv lv pv nv bv fv wr => ∃ (f : Nat) (t : Bytes) (l : List Int) (p n bi : Int) (fi : Bool), sv = .string (bs t) ∧ pv = .int .i64 p ∧ nv = .int .i64 n ∧ bv = .int .i64 bi ∧ fv = .bool fi ∧
            wr.ownsRow w.heap.size 3 1 lv l.length (I64s l) ∧ T = decGo f t l p n bi fi ∧ t.length ≤ f ∧ f ≤ 100000 ∧ l.length ≤ 255 ∧ 0 ≤ p ∧ p ≤ 256 ∧ 128 ≤ n ∧ n ≤ 1114111 ∧ 0 ≤ bi ∧ bi ≤ 2400 ∧ w.heap.size ≤ wr.heap.size ∧ Below w.heap.size w wr) (fun sv _ _ _ _ _ _ => lenS sv)
        case atStart => exact ⟨L, s0.drop (k0 + 1), (s0.take k0).map b2, 0, 128, 72, true, by rw [HTN.out], rfl, rfl, rfl, rfl, by rw [HLN.out]; exact HOW.out, by rw [HL.out]; exact HT3.out, by rw [List.length_drop, ← HL.out]; omega, hs, by rw [HLN.out]; have := HKH.out; omega, by omega, by omega, by omega, by omega, by omega, by omega, hwa, HBA.out⟩
        case round =>
          obtain ⟨f, t, l, p, n, bi, fi, rfl, rfl, rfl, rfl, rfl, hown, hT3, htf, hf1, hll, hp0, hp1, hn0, hn1, hb0, hb1, hwz, hbel⟩ := hrel
          have HO := Lib.hid hown; clear hown
          have HB := Lib.hid hbel; clear hbel
          by_cases ht : t.length = 0
          · rw [decGo_end f ht] at hT3
            have hemp : (bs t).toList.isEmpty = true := by rw [toList_bs, List.eq_nil_of_length_eq_zero ht]; rfl
            have HT3 := Lib.hid hT3; clear hT3
            clear ht htf
            go_wp2
            go_ret2
            exact RetD.some HT3.out rfl HO.out hwz HB.out
          · cases f with
            | zero => omega
            | succ g =>
              rw [decGo_more g ht] at hT3
              have hemp : (bs t).toList.isEmpty = false := by
                rw [toList_bs]
                cases t with
                | nil => simp at ht
                | cons y r => rfl
              have hrr := rd_range t bi
              have hra := fun W => read_any (bs t) bi W (by rw [bs_size]; omega) (by omega)
              rw [ls_bs] at hra
              have hdr := drop_str t (rd t bi).2.toNat
              obtain ⟨d, hd'⟩ : ∃ d, d = (rd t bi).1 := ⟨_, rfl⟩
              obtain ⟨k, hk'⟩ : ∃ k, k = (rd t bi).2 := ⟨_, rfl⟩
              rw [← hd', ← hk'] at hT3 hrr hra
              rw [← hk'] at hdr
              clear hd' hk'
              have htl : (bs t).size = t.length := bs_size t
              obtain ⟨tl, htl'⟩ : ∃ tl, tl = t.length := ⟨_, rfl⟩
              rw [← htl'] at htl htf hrr
              have HTL := Lib.hid htl'; clear htl' ht
              have HRA := Lib.hid hra; clear hra
              by_cases hk0 : k = 0
              · rw [if_pos hk0] at hT3
                have HT3 := Lib.hid hT3; clear hT3 hdr
                subst hk0
                go_wp2_with (first
                  | (go_at_call 39; refine (HRA.out _).mono ?_; rintro e w2 ⟨rfl, rfl⟩)
                  | fail)
                go_ret2
                exact RetD.none HT3.out hwz HB.out
              · rw [if_neg hk0] at hT3
                have hex : (bs t).extract k.toNat (bs t).size = bs (t.drop k.toNat) := hdr
                clear hdr
                obtain ⟨m, hm⟩ : ∃ m : Nat, m = l.length := ⟨_, rfl⟩
                rw [← hm] at hT3 hll
                have hlen : l.length = m := hm.symm
                have HM := Lib.hid hm; clear hm
                have hq1 : Int.tdiv (p + d) (m + 1) = (p + d) / (m + 1) := tdiv_pos (by omega)
                have hq2 : Int.tmod (p + d) (m + 1) = (p + d) % (m + 1) := Int.tmod_eq_emod_of_nonneg (by omega)
                have hq3 : 0 ≤ (p + d) / (m + 1) ∧ (p + d) / (m + 1) ≤ p + d := ⟨Int.ediv_nonneg (by omega) (by omega), Int.ediv_le_self _ (by omega)⟩
                have hq4 : 0 ≤ (p + d) % (m + 1) ∧ (p + d) % (m + 1) < m + 1 := ⟨Int.emod_nonneg _ (by omega), Int.emod_lt_of_pos _ (by omega)⟩
                obtain ⟨dv, hdv⟩ : ∃ dv, dv = (p + d) / ((m : Int) + 1) := ⟨_, rfl⟩
                obtain ⟨qn, hqn⟩ : ∃ qn : Nat, (p + d) % ((m : Int) + 1) = (qn : Int) := ⟨((p + d) % ((m : Int) + 1)).toNat, (Int.toNat_of_nonneg hq4.1).symm⟩
                rw [← hdv] at hq1 hq3 hT3
                rw [hqn] at hq2 hq4 hT3
                rw [Int.toNat_natCast] at hT3
                clear hdv hqn
                obtain ⟨al, cl, hv⟩ := slice_val (Sl.of_own HO.out)
                rw [show (I64s l).length = m by rw [List.length_map, hlen]] at hv
                subst hv
                have hex2 : (bs t).extract k.toNat tl = bs (t.drop k.toNat) := by rw [← htl]; exact hex
                have hsa := fun W => isSign_any (n + dv) W
                have hcs : m = 255 ∨ (m < 255 ∧ sg (n + dv) = false) ∨ (m < 255 ∧ sg (n + dv) = true) := by
                  by_cases h5 : m = 255
                  · exact .inl h5
                  · cases hq : sg (n + dv)
                    · exact .inr (.inl ⟨by omega, rfl⟩)
                    · exact .inr (.inr ⟨by omega, rfl⟩)
                rcases hcs with hc | ⟨hc, hsg⟩ | ⟨hc, hsg⟩
                · rw [if_pos (.inl hc)] at hT3
                  have HT3 := Lib.hid hT3; clear hT3 hsa
                  subst hc
                  go_wp2_with (first
                    | (go_at_call 39; refine (HRA.out _).mono ?_; rintro e w2 ⟨rfl, rfl⟩)
                    | fail)
                  go_ret2
                  exact RetD.none HT3.out hwz HB.out
                · rw [if_pos (.inr (by rw [hsg]; simp))] at hT3
                  rw [hsg] at hsa
                  have HSA := Lib.hid hsa; clear hsa hsg
                  have HT3 := Lib.hid hT3; clear hT3
                  go_wp2_with (first
                    | (go_at_call 39; refine (HRA.out _).mono ?_; rintro e w2 ⟨rfl, rfl⟩)
                    | (go_at_call 40; refine (HSA.out _).mono ?_; rintro e w2 ⟨rfl, rfl⟩)
                    | fail)
                  go_ret2
                  exact RetD.none HT3.out hwz HB.out
                · rw [if_neg (by rw [hsg]; simp; omega)] at hT3
                  have hsr := (sg_iff.mp hsg)
                  rw [hsg] at hsa
                  have HSA := Lib.hid hsa; clear hsa hsg
                  have HT3 := Lib.hid hT3; clear hT3
                  have hil := ins_len l (n + dv) qn (by omega)
                  have hin := insert_any l (n + dv) qn _ w.heap.size wr HO.out hwz (by omega) (by omega)
                  have HIN := Lib.hid hin; clear hin
                  have HSR := Lib.hid hsr.2.1; clear hsr
                  rw [hlen] at hil
                  obtain ⟨l2, hl2⟩ : ∃ l2, l2 = l.take qn ++ (n + dv) :: l.drop qn := ⟨_, rfl⟩
                  rw [← hl2] at hil HIN HT3
                  clear hl2
                  have HIL := Lib.hid hil; clear hil
                  go_wp2_with (first
                    | (go_at_call 39; refine (HRA.out _).mono ?_; rintro e w2 ⟨rfl, rfl⟩)
                    | (go_at_call 40; refine (HSA.out _).mono ?_; rintro e w2 ⟨rfl, rfl⟩)
                    | (go_at_call 41; refine (HIN.out).mono ?_; rintro e w3 ⟨v3, rfl, ho3, hz3, hb3⟩; have HO3 := Lib.hid ho3; have HZ3 := Lib.hid hz3; clear hz3; have HB3 := Lib.hid hb3; clear hb3; obtain ⟨al3, cl3, hv3⟩ := slice_val (Sl.of_own ho3); rw [show (I64s l2).length = m + 1 by rw [List.length_map]; exact HIL.out] at hv3; subst hv3; clear ho3)
                    | (go_at_call 42; refine (nextBias_any d (m + 1) fi _ (by omega) (by omega)).mono ?_; rintro e w4 ⟨rfl, rfl⟩)
                    | fail)
                  have hnb := nb_range (d := d) (n := (m : Int) + 1) fi hrr.1 (by omega)
                  have HNB := Lib.hid hnb; clear hnb
                  go_roundw
                  case rel =>
                    refine ⟨g, t.drop k.toNat, l2, qn + 1, n + dv, nb d (m + 1) fi, false, rfl, rfl, rfl, rfl, rfl, by rw [HIL.out]; have := HO3.out; rw [HIL.out] at this; exact this, HT3.out, ?_, by omega, by rw [HIL.out]; omega, by omega, by omega, by omega, HSR.out, HNB.out.1, HNB.out.2, by have := HZ3.out; omega, HB.out.trans HB3.out⟩
                    rw [List.length_drop, ← HTL.out]
                    omega
                  case measure =>
                    have e := HTL.out
                    show (bs (t.drop k.toNat)).size < (bs t).size
                    rw [bs_size, bs_size, List.length_drop]
                    omega
end Go.Proofs.YtledmlgebfbhaaaDoor
