/- The walk of IdnaBack. -/
import Derived.Test.YtledmlgebfbhaaaDoorLaw08B
import Derived.Test.YtledmlgebfbhaaaDoorGlu
namespace Go.Proofs.YtledmlgebfbhaaaDoor
open Go.RowKit
set_option maxRecDepth 10000

theorem join_snoc2 {l : List Int} {k : Nat} (h : k < l.length) : joinF (l.take (k + 1)) = joinF (l.take k) ++ enc l[k] := by
  rw [List.take_succ_eq_append_getElem h, joinF_append, joinF_cons]
  simp [joinF]
theorem take4 (E : Bytes) : (bs (pre4 ++ E)).extract 0 4 = bs pre4 := by
  rw [bs_extract]
  rfl
theorem pre_cases2 (A : Bytes) : (A.length < 4 ∧ Lib.hasPrefix A pre4 = false) ∨ (4 ≤ A.length ∧ (A.take 4 == pre4) = Lib.hasPrefix A pre4) := by
  rcases pre_cases A with ⟨h1, h2⟩ | ⟨h1, _, h3⟩
  · exact .inl ⟨h1, h2⟩
  · exact .inr ⟨h1, h3⟩
set_option maxHeartbeats 8000000 in
theorem idnaBack_walk (v : Value) (l : List Int) (w : World) (h : Sl w.heap.size w v (I64s l)) (_ : ∀ n ∈ l, (Lit.int .i64 n).wf = true) (hE : Env w) :
    Calls Tryd.prog 8 #[v] w fun e w' => e = .returned (.bool true) ∧ Below w.heap.size w w' := by
  obtain ⟨i8, hi8, hz8, hz81, hz82⟩ := info_parts u8_info
  have HSM := Lib.hid (small8_any w hE)
  obtain ⟨av, cv, rfl⟩ := slice_val h
  rw [show (I64s l).length = l.length by simp] at h ⊢
  have hlab := fun (W : World) (hb : Below w.heap.size w W) => label_any l (.slice av l.length cv) W ((h.below hb).more hb.size)
  have hat := fun (W : World) (hb : Below w.heap.size w W) => slice_at (h.below hb)
  have hsl := fun (W : World) (hb : Below w.heap.size w W) => h.below hb
  clear h
  obtain ⟨m, hm⟩ : ∃ m, m = labF l := ⟨_, rfl⟩
  rw [← hm] at hlab
  obtain ⟨L, hL⟩ : ∃ L, L = l.length := ⟨_, rfl⟩
  rw [← hL] at hlab hsl
  rw [← hL]
  have HAT := Lib.hid hat; clear hat
  have HSL := Lib.hid hsl; clear hsl
  have HLAB := Lib.hid hlab; clear hlab
  have hcs : 255 < L ∨ (L ≤ 255 ∧ m = false) ∨ (L ≤ 255 ∧ m = true) := by
    cases m
    · simp; omega
    · simp; omega
  rcases hcs with h1 | ⟨h1, rfl⟩ | ⟨h1, rfl⟩
  · clear hE hm hL
    go_enter Tryd.func8, Tryd.ntmps8
    go_wp2_with fail
    refine (HSM.out).mono ?_
    rintro e w1 ⟨rfl, hb1⟩
    have HB1 := Lib.hid hb1; clear hb1
    go_wp2_with fail
    go_ret
    exact ⟨rfl, HB1.out⟩
  · clear hE hm hL
    go_enter Tryd.func8, Tryd.ntmps8
    go_wp2_with fail
    refine (HSM.out).mono ?_
    rintro e w1 ⟨rfl, hb1⟩
    have HB1 := Lib.hid hb1; clear hb1
    go_wp2_with fail
    refine (HLAB.out _ HB1.out).mono ?_
    rintro e w2 ⟨rfl, hb2⟩
    have HB2 := Lib.hid (HB1.out.trans (hb2.mono HB1.out.size)); clear hb2
    go_wp2_with fail
    go_ret
    exact ⟨rfl, HB2.out⟩
  · have hm' := hm.symm
    have hll : l.length ≤ 255 := by omega
    have hdl := dom_label hm' hll
    obtain ⟨_, hsg, he1⟩ := enc_ok hm' hll
    have hdec := dec_of_enc hsg hll
    have hel := encF_len hsg hll
    have hjl := joinF_len l
    have hpc := pre_cases2 (joinF l)
    obtain ⟨E, hEE⟩ : ∃ E, E = encF l := ⟨_, rfl⟩
    rw [← hEE] at hdl he1 hdec hel
    obtain ⟨pf, hpf⟩ : ∃ pf, pf = Lib.hasPrefix (joinF l) pre4 := ⟨_, rfl⟩
    rw [← hpf] at hdl hpc
    clear hm hm' hsg hEE hpf
    have hdm := fun W hb => dom_is (joinF l) _ _ w W (by omega) hE hb rfl rfl
    rw [hdl] at hdm
    have hdc := fun W => decode_core E W (by omega)
    rw [hdec] at hdc
    clear hdl hdec hE hll
    have HL := Lib.hid hL; clear hL
    have HD := Lib.hid hdm; clear hdm
    have HDC := Lib.hid hdc; clear hdc
    have HPC := Lib.hid hpc; clear hpc
    have HJL := Lib.hid hjl; clear hjl
    go_enter Tryd.func8, Tryd.ntmps8
    go_wp2_with fail
    refine (HSM.out).mono ?_
    rintro e w1 ⟨rfl, hb1⟩
    have HB1 := Lib.hid hb1; clear hb1
    go_wp2_with fail
    refine (HLAB.out _ HB1.out).mono ?_
    rintro e w2 ⟨rfl, hb2⟩
    have HB2 := Lib.hid (HB1.out.trans (hb2.mono HB1.out.size)); clear hb2
    go_wp2_with fail
    go_loopw [4, 5] (fun ov iv wr => ∃ k : Nat, k ≤ L ∧ iv = .int .i64 k ∧ wr.ownsRow w.heap.size 5 1 ov (joinF (l.take k)).length (Lib.byteCells (joinF (l.take k))) ∧ Below w.heap.size w wr) (fun _ i _ => L - (intOf i).toNat)
    case atStart => exact ⟨0, by omega, by simp, World.ownsRow_nil _ _ _ _, HB2.out⟩
    case round =>
      obtain ⟨k, hk, rfl, hown, hbl⟩ := hrel
      have HO := Lib.hid hown; clear hown
      have HB := Lib.hid hbl; clear hbl
      have hwz := HB.out.size
      by_cases hlt : k < L
      · have hx : k < l.length := by have := HL.out; omega
        obtain ⟨b, o, rfl, hb, hcell⟩ := HAT.out _ HB.out k hx
        have hsn := join_snoc2 hx
        have hj1 := joinF_len (l.take k)
        rw [List.length_take] at hj1
        have hj2 : (joinF (l.take k)).length ≤ 1020 := by omega
        clear hj1
        obtain ⟨x, hxx⟩ : ∃ x, x = l[k] := ⟨_, rfl⟩
        rw [← hxx] at hcell hsn
        clear hxx
        have hsx := fun W => sign_any x W
        have hxl := (enc_len x).2
        obtain ⟨X, hX⟩ : ∃ X, X = enc x := ⟨_, rfl⟩
        rw [← hX] at hsn hsx hxl
        clear hX
        obtain ⟨A, hA⟩ : ∃ A, A = joinF (l.take k) := ⟨_, rfl⟩
        rw [← hA] at hsn hj2 HO
        clear hA
        have HSN := Lib.hid hsn; clear hsn
        have HSX := Lib.hid hsx; clear hsx
        obtain ⟨al, hal⟩ : ∃ al, al = A.length := ⟨_, rfl⟩
        rw [← hal] at HO hj2
        have HAL := Lib.hid hal; clear hal
        go_wp2_with (first
          | (go_at_call 17; refine (HSX.out _).mono ?_; rintro e w6 ⟨rfl, rfl⟩)
          | (at_builtin; (refine pushS rfl (.tmp 26) (.tmp 31) _ _ rfl w.heap.size 5 i8 Tryd.underlying36 Tryd.underlying9 hi8 hz8 hz81 hz82 _ _ _ A rfl HO.out X rfl (by omega) hwz ?_); intro v2 w7 hown2 hw2 hb2; have HO2 := Lib.hid hown2; clear hown2; have HB3 := Lib.hid hb2; clear hb2)
          | fail)
        go_roundw
        case rel => exact ⟨k + 1, by omega, by simp, by rw [HSN.out, List.length_append, ← HAL.out]; exact HO2.out, HB.out.trans HB3.out⟩
        case measure => simp [intOf]; omega
      · obtain rfl : L = k := by omega
        have ho := HO.out
        rw [List.take_of_length_le (by have := HL.out; omega)] at ho
        clear HO
        have hjl := HJL.out
        have hjl2 : (joinF l).length ≤ 1020 := by have := HL.out; omega
        have hpc := HPC.out
        obtain ⟨A, hA⟩ : ∃ A, A = joinF l := ⟨_, rfl⟩
        rw [← hA] at ho hjl2 hpc HD
        clear hA hjl
        obtain ⟨ao, co, hv⟩ := slice_val (Sl.of_own ho)
        rw [Lib.byteCells_length] at hv
        subst hv
        have kc := conv_own Tryd.underlying36 Tryd.underlying5 Tryd.underlying9 ho
        obtain ⟨n, hn⟩ : ∃ n, n = A.length := ⟨_, rfl⟩
        rw [← hn] at ho kc hjl2 hpc ⊢
        have HN := Lib.hid hn; clear hn
        have HO := Lib.hid ho; clear ho
        rcases hpc with ⟨h4, rfl⟩ | ⟨h4, hpe⟩
        · -- a name comes of it
          have hd : ∀ W, Below w.heap.size w W → Calls Tryd.prog 13 #[.string (bs A)] W fun e w' => e = .returned (.tuple #[.string (bs (pre4 ++ E)), .bool true]) ∧ Below W.heap.size W w' := by
            intro W hW
            have := HD.out W hW
            rw [if_neg (by simp)] at this
            exact this
          have hx4 := take4 E
          have hx5 : (bs (pre4 ++ E)).extract 4 (bs (pre4 ++ E)).size = bs E := drop_str (pre4 ++ E) 4
          have huz : (bs (pre4 ++ E)).size = 4 + E.length := by rw [bs_size, List.length_append]; rfl
          obtain ⟨u, hu⟩ : ∃ u, u = bs (pre4 ++ E) := ⟨_, rfl⟩
          rw [← hu] at hd hx4 hx5 huz
          clear hu
          obtain ⟨Z, hZ⟩ : ∃ Z, Z = u.size := ⟨_, rfl⟩
          have huZ : u.size = Z := hZ.symm
          rw [huZ] at hx5 huz
          have hZ5 : 5 ≤ Z := by omega
          have hZm : Z ≤ 4000 := by omega
          obtain ⟨p4, hp4⟩ : ∃ p4, p4 = bs pre4 := ⟨_, rfl⟩
          have c1 : (p4.toList == (⟨#[120, 110, 45, 45]⟩ : ByteArray).toList) = true := by rw [hp4, toList_bs, toList_ls]; rfl
          have c2 : (p4.toList == [120, 110, 45, 45]) = true := by rw [hp4, toList_bs]; rfl
          rw [← hp4] at hx4
          clear hp4 hZ huz
          have HDD := Lib.hid hd; clear hd
          go_wp2_with fail
          refine (HDD.out _ HB.out).mono ?_
          rintro e w5 ⟨rfl, hb5⟩
          have HB5 := Lib.hid (HB.out.trans (hb5.mono HB.out.size))
          clear hb5
          go_wp2_with fail
          refine (HDC.out _).mono ?_
          rintro e w6 ⟨v6, rfl, ho6, _, hb6⟩
          have HB6 := Lib.hid (HB5.out.trans (hb6.mono HB5.out.size)); clear hb6
          simp only [Option.getD_some] at ho6
          have HS6 := Lib.hid (Sl.of_own ho6); clear ho6
          go_wp2_with fail
          refine (ints_any l l _ _ _ _ _ (HSL.out _ HB6.out) HS6.out).mono ?_
          rintro e w7 ⟨rfl, hb7⟩
          have HB7 := Lib.hid (HB6.out.trans (hb7.mono HB6.out.size)); clear hb7
          go_wp2_with fail
          go_ret
          exact ⟨ret1_bool (by simp), HB7.out⟩
        · obtain ⟨gA, rfl, hcap⟩ : ∃ gA, ao = some ⟨gA, 0, none⟩ ∧ n ≤ co := by
            have hle := HO.out.1
            rcases HO.out.2 with ⟨hv, h0⟩ | ⟨g', cap, cur, hv, _, _, hnc, _⟩
            · omega
            · injection hv with v1 v2 v3
              exact ⟨g', v1, by omega⟩
          have hs4 := (Sl.of_own HO.out).cut 0 4 (by omega) h4
          have hsl4 : sliced (some ⟨gA, 0, none⟩) 0 4 co 1 = .slice (some ⟨gA, 0, none⟩) 4 co := by
            unfold sliced
            rw [if_neg (by omega), Option.map_some, addr_add]
            simp
          rw [hsl4, List.drop_zero, Nat.sub_zero] at hs4
          have ht4 : (Lib.byteCells A).take 4 = Lib.byteCells (A.take 4) := by unfold Lib.byteCells; rw [List.map_take]
          rw [ht4] at hs4
          have kc4 := fun (W : World) (hW : Below wr.heap.size wr W) => conv_any (P := Tryd.prog) Tryd.underlying36 Tryd.underlying5 Tryd.underlying9 (hs4.below hW)
          obtain ⟨q4, hq4⟩ : ∃ q4, q4 = bs (A.take 4) := ⟨_, rfl⟩
          rw [← hq4] at kc4
          have d1 : (q4.toList == (⟨#[120, 110, 45, 45]⟩ : ByteArray).toList) = pf := by rw [hq4, toList_bs, toList_ls]; exact hpe
          have d2 : (q4.toList == [120, 110, 45, 45]) = pf := by rw [hq4, toList_bs]; exact hpe
          clear hq4 hpe ht4 hs4
          have KC4 := Lib.hid kc4; clear kc4
          cases pf
          · -- a name comes of it
            have hd : ∀ W, Below w.heap.size w W → Calls Tryd.prog 13 #[.string (bs A)] W fun e w' => e = .returned (.tuple #[.string (bs (pre4 ++ E)), .bool true]) ∧ Below W.heap.size W w' := by
              intro W hW
              have := HD.out W hW
              rw [if_neg (by simp)] at this
              exact this
            have hx4 := take4 E
            have hx5 : (bs (pre4 ++ E)).extract 4 (bs (pre4 ++ E)).size = bs E := drop_str (pre4 ++ E) 4
            have huz : (bs (pre4 ++ E)).size = 4 + E.length := by rw [bs_size, List.length_append]; rfl
            obtain ⟨u, hu⟩ : ∃ u, u = bs (pre4 ++ E) := ⟨_, rfl⟩
            rw [← hu] at hd hx4 hx5 huz
            clear hu
            obtain ⟨Z, hZ⟩ : ∃ Z, Z = u.size := ⟨_, rfl⟩
            have huZ : u.size = Z := hZ.symm
            rw [huZ] at hx5 huz
            have hZ5 : 5 ≤ Z := by omega
            have hZm : Z ≤ 4000 := by omega
            obtain ⟨p4, hp4⟩ : ∃ p4, p4 = bs pre4 := ⟨_, rfl⟩
            have c1 : (p4.toList == (⟨#[120, 110, 45, 45]⟩ : ByteArray).toList) = true := by rw [hp4, toList_bs, toList_ls]; rfl
            have c2 : (p4.toList == [120, 110, 45, 45]) = true := by rw [hp4, toList_bs]; rfl
            rw [← hp4] at hx4
            clear hp4 hZ huz
            have HDD := Lib.hid hd; clear hd
            go_wp2_with fail
            refine (HDD.out _ HB.out).mono ?_
            rintro e w5 ⟨rfl, hb5⟩
            have HB5 := Lib.hid (HB.out.trans (hb5.mono HB.out.size))
            have kc5 := KC4.out _ hb5
            clear hb5
            go_wp2_with fail
            refine (HDC.out _).mono ?_
            rintro e w6 ⟨v6, rfl, ho6, _, hb6⟩
            have HB6 := Lib.hid (HB5.out.trans (hb6.mono HB5.out.size)); clear hb6
            simp only [Option.getD_some] at ho6
            have HS6 := Lib.hid (Sl.of_own ho6); clear ho6
            go_wp2_with fail
            refine (ints_any l l _ _ _ _ _ (HSL.out _ HB6.out) HS6.out).mono ?_
            rintro e w7 ⟨rfl, hb7⟩
            have HB7 := Lib.hid (HB6.out.trans (hb7.mono HB6.out.size)); clear hb7
            go_wp2_with fail
            go_ret
            exact ⟨ret1_bool (by simp), HB7.out⟩
          · have hd : ∀ W, Below w.heap.size w W → Calls Tryd.prog 13 #[.string (bs A)] W fun e w' => e = .returned (.tuple #[S [], .bool false]) ∧ Below W.heap.size W w' := by
              intro W hW
              have := HD.out W hW
              rw [if_pos rfl] at this
              exact this
            have HDD := Lib.hid hd; clear hd
            go_wp2_with fail
            refine (HDD.out _ HB.out).mono ?_
            rintro e w5 ⟨rfl, hb5⟩
            have HB5 := Lib.hid (HB.out.trans (hb5.mono HB.out.size))
            have kc5 := KC4.out _ hb5
            clear hb5
            go_wp2_with fail
            go_ret
            exact ⟨ret1_bool (by simp), HB5.out⟩
end Go.Proofs.YtledmlgebfbhaaaDoor
