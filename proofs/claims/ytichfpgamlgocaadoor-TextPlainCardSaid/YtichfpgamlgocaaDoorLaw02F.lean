/- The walk of TextBroken. -/
import Derived.Test.YtichfpgamlgocaaDoorLaw02E
namespace Go.Proofs.YtichfpgamlgocaaDoor
open Go.RowKit
set_option linter.unusedSimpArgs false

theorem right_in {wg : World} (s : ByteArray) (r : Bool) (W : World) (hr : Lib.validD (ls s) = r) (hb : Below wg.heap.size wg W) (hs : s.size ≤ 1000000) (hT : Tabs wg) :
    Calls Tryd.prog 14 #[.string s] W fun e w' => e = .returned (.bool r) ∧ Below W.heap.size W w' := right_val s r W hr (by omega) (hT.below hb)
/-- what a slice of bytes shows at its places -/
theorem slice_atb {B : Nat} {w : World} {av : Option Addr} {n c : Nat} {l : Bytes} (h : Sl B w (.slice av n c) (Lib.byteCells l)) (k : Nat) (hk : k < l.length) :
    ∃ b o, av = some ⟨b, o, none⟩ ∧ b < B ∧ w.cell? ⟨b, o + k, none⟩ = some (.int .u8 (b2 l[k])) := by
  obtain ⟨c', _, _, h⟩ := h
  rcases h with ⟨hn, a, e⟩ | ⟨b, o, hb, e, hat⟩
  · obtain rfl : l = [] := by simpa [Lib.byteCells] using hn
    simp at hk
  · injection e with e1 _ _
    refine ⟨b, o, e1, hb, ?_⟩
    have := hat k (by simpa [Lib.byteCells] using hk)
    simpa [Lib.byteCells, b2] using this
/-- three rows in one, the one between new -/
theorem glueN {P : Program} (w : World) (t ty e : TypeId) (i : TypeInfo) (ht : P.underlying t = some (.slice e)) (hi : P.info? e = some i) (hz : i.zero = some (.int .u8 0))
    (hsize : i.size = 1) (hby : i.bytes = 1) (x y z : Bytes) (ys : List Int) (hys : ys.map (Value.int .u8) = Lib.byteCells y) (n : Nat) (hn : n = y.length) (hlen : x.length + y.length + z.length ≤ 1000000) (vx vz : Value)
    (hx : Sl w.heap.size w vx (Lib.byteCells x)) (hz' : Sl w.heap.size w vz (Lib.byteCells z)) :
    ∃ v1 w1 v2 w2 v3 w3, (Builtin.append_ #[t, t] ty #[.slice (some ⟨w.heap.size, 0, none⟩) 0 0, vx]).run P (w.alloc (.cells #[] e)) = .ok v1 w1 ∧
      (Builtin.append_ #[t, t] ty #[v1, .slice (some ⟨w1.heap.size, 0, none⟩) n n]).run P (w1.alloc (.cells (ys.map (Value.int .u8)).toArray e)) = .ok v2 w2 ∧
      (Builtin.append_ #[t, t] ty #[v2, vz]).run P w2 = .ok v3 w3 ∧ Sl w3.heap.size w3 v3 (Lib.byteCells (x ++ y ++ z)) ∧ Below w.heap.size w w3 := by
  subst hn
  have g0 := Glue.new w e
  obtain ⟨v1, w1, r1, g1⟩ := g0.step (P := P) t ty i ht hi hz hsize hby x (by simp; omega) _ vx (g0.src hx)
  have hy : Sl (w1.heap.size + 1) (w1.alloc (.cells (ys.map (Value.int .u8)).toArray e)) (.slice (some ⟨w1.heap.size, 0, none⟩) y.length y.length) (Lib.byteCells y) := by
    refine ⟨y.length, by rw [Lib.byteCells_length]; exact Nat.le_refl _, by unfold maxLen; omega, .inr ⟨w1.heap.size, 0, by omega, by rw [Lib.byteCells_length], fun j hj => ?_⟩⟩
    rw [Nat.zero_add, World.cell?_alloc_mark, hys]
    simp [List.getElem?_eq_getElem hj]
  obtain ⟨v2, w2, r2, g2⟩ := (g1.alloc (.cells (ys.map (Value.int .u8)).toArray e)).step (P := P) t ty i ht hi hz hsize hby y (by simp; omega) _ _ hy
  obtain ⟨v3, w3, r3, g3⟩ := g2.step (P := P) t ty i ht hi hz hsize hby z (by simp; omega) _ vz (g2.src hz')
  exact ⟨v1, w1, v2, w2, v3, w3, r1, r2, r3, g3.sl, g3.2.2⟩
theorem u8_range {c : Int} (h : (Lit.int .u8 c).wf = true) : 0 ≤ c ∧ c < 256 := by
  simp [Lit.wf, IntKind.min, IntKind.max, IntKind.signed, IntKind.bits] at h
  omega
theorem bs3_eq (l m r : Bytes) (b : ByteArray) (hb : bs m = b) : ((bs (l ++ m ++ r)).toList == (bs l ++ b ++ bs r).toList) = true := by
  subst hb
  rw [bs_app, bs_app, toList_bs, eq_dec]
  simp
theorem all_step {l : Bytes} {k : Nat} (h : ∀ x ∈ l.take k, b2 x < 0x80) (hk : k < l.length) (hx : b2 l[k] < 0x80) : ∀ x ∈ l.take (k + 1), b2 x < 0x80 := by
  rw [List.take_succ_eq_append_getElem hk]
  intro x hx'
  rcases List.mem_append.mp hx' with h' | h'
  · exact h x h'
  · simp at h'; subst h'; exact hx

attribute [local simp] bz_refl bz_drew bz_drewN bz_alloc
set_option maxHeartbeats 2000000 in
theorem textBroken_core (la lb : Bytes) (x : UInt8) (aa ab : Option Addr) (ca cb : Nat) (w : World) (hsa : Sl w.heap.size w (.slice aa la.length ca) (Lib.byteCells la)) (hsb : Sl w.heap.size w (.slice ab lb.length cb) (Lib.byteCells lb))
    (hla : la.length ≤ 200) (hlb : lb.length ≤ 200) (hx : 0x80 ≤ b2 x) (hT : Tabs w) :
    Calls Tryd.prog 9 #[.slice aa la.length ca, .int .u8 (b2 x), .slice ab lb.length cb] w fun e w' => e = .returned (.bool true) ∧ Below w.heap.size w w' := by
  have hata := slice_atb hsa
  have hatb := slice_atb hsb
  obtain ⟨i8, hi8, hz8, hz81, hz82⟩ := info_parts u8_info
  have HT := Lib.hid hT; clear hT
  have HATA := Lib.hid hata; clear hata
  have HATB := Lib.hid hatb; clear hatb
  have HLN := Lib.hid (show la.length ≤ 200 ∧ lb.length ≤ 200 from ⟨hla, hlb⟩)
  have HX := Lib.hid hx
  obtain ⟨A, hA⟩ : ∃ A, A = la.length := ⟨_, rfl⟩
  obtain ⟨N, hN⟩ : ∃ N, N = lb.length := ⟨_, rfl⟩
  obtain ⟨xi, hxi⟩ : ∃ xi, xi = b2 x := ⟨_, rfl⟩
  rw [← hA] at hsa hla ⊢
  rw [← hN] at hsb hlb ⊢
  rw [← hxi] at hx ⊢
  have HSA0 := Lib.hid hsa; clear hsa
  have HSB0 := Lib.hid hsb; clear hsb
  have HA := Lib.hid hA; clear hA
  have HN := Lib.hid hN; clear hN
  have HXI := Lib.hid hxi; clear hxi
  go_enter Tryd.func9, Tryd.ntmps9
  go_wp2_with fail
  refine (small_any _ HT.out).mono ?_
  rintro e w1 ⟨rfl, hb1⟩
  have hs1 := hb1.size
  have HB1 := Lib.hid hb1; clear hb1
  go_wp2
  go_loopw [8] (fun i wr => ∃ (k : Nat), k ≤ A ∧ i = .int .i64 k ∧ (∀ y ∈ la.take k, b2 y < 0x80) ∧ wr = w1) (fun i _ => A - (intOf i).toNat)
  case atStart => exact ⟨0, by omega, rfl, by simp, rfl⟩
  case round =>
    obtain ⟨k, hk, rfl, hall, rfl⟩ := hrel
    have HALL := Lib.hid hall; clear hall
    by_cases hlt : k < A
    · have hx1 : k < la.length := by have := HA.out; omega
      obtain ⟨b, o, rfl, hb, h1⟩ := HATA.out k hx1
      have hcell : wr.cell? ⟨b, o + k, none⟩ = some (.int .u8 (b2 la[k])) := by
        rw [(HB1.out).cell (p := ⟨b, o + k, none⟩) hb, h1]
      have hcs : b2 la[k] < 128 ∨ 128 ≤ b2 la[k] := by omega
      obtain ⟨y, hy⟩ : ∃ y, y = b2 la[k] := ⟨_, rfl⟩
      rw [← hy] at hcell hcs
      have HY := Lib.hid hy; clear hy h1
      rcases hcs with hc | hc
      · go_wp2
        go_roundw
        case rel => exact ⟨k + 1, hlt, by simp, all_step HALL.out hx1 (by rw [← HY.out]; exact hc), trivial⟩
        case measure => simp [intOf]; omega
      · go_wp2
        go_ret
        exact ⟨rfl, HB1.out⟩
    · obtain rfl : A = k := by omega
      have e1 : la.take A = la := List.take_of_length_le (by have := HA.out; omega)
      have hall := HALL.out
      rw [e1] at hall
      have HALLA := Lib.hid hall; clear hall
      clear HALL e1
      go_wp2
      go_loopw [9] (fun i wr2 => ∃ (k : Nat), k ≤ N ∧ i = .int .i64 k ∧ (∀ y ∈ lb.take k, b2 y < 0x80) ∧ wr2 = wr) (fun i _ => N - (intOf i).toNat)
      case atStart => exact ⟨0, by omega, rfl, by simp, rfl⟩
      case round =>
        obtain ⟨k, hk, rfl, hall, rfl⟩ := hrel
        have HALL := Lib.hid hall; clear hall
        by_cases hlt : k < N
        · have hx1 : k < lb.length := by have := HN.out; omega
          obtain ⟨b, o, rfl, hb, h1⟩ := HATB.out k hx1
          have hcell : wr.cell? ⟨b, o + k, none⟩ = some (.int .u8 (b2 lb[k])) := by
            rw [(HB1.out).cell (p := ⟨b, o + k, none⟩) hb, h1]
          have hcs : b2 lb[k] < 128 ∨ 128 ≤ b2 lb[k] := by omega
          obtain ⟨y, hy⟩ : ∃ y, y = b2 lb[k] := ⟨_, rfl⟩
          rw [← hy] at hcell hcs
          have HY := Lib.hid hy; clear hy h1
          rcases hcs with hc | hc
          · go_wp2
            go_roundw
            case rel => exact ⟨k + 1, hlt, by simp, all_step HALL.out hx1 (by rw [← HY.out]; exact hc), trivial⟩
            case measure => simp [intOf]; omega
          · go_wp2
            go_ret
            exact ⟨rfl, HB1.out⟩
        · obtain rfl : N = k := by omega
          have e1 : lb.take N = lb := List.take_of_length_le (by have := HN.out; omega)
          have hall := HALL.out
          rw [e1] at hall
          have hd1 := (decT_eq _).trans (broken_1 la lb x HALLA.out hall HX.out)
          have hd2 := (decT_eq _).trans (broken_2 la lb x HALLA.out hall HX.out)
          have hd3 := broken_3 la lb x HALLA.out hall HX.out
          have HD1 := Lib.hid hd1; clear hd1
          have HD2 := Lib.hid hd2; clear hd2
          have HD3 := Lib.hid hd3; clear hd3
          clear HALL e1 hall
          have hsa := ((HSA0.out).below HB1.out).more (HB1.out).size
          have hsb := ((HSB0.out).below HB1.out).more (HB1.out).size
          obtain ⟨y1, wy1, y2, wy2, y3, wf, hr1, hr2, hr3, hsf, hbf⟩ := glueN (P := Tryd.prog) wr 22 22 5 i8 Tryd.underlying22 hi8 hz8 hz81 hz82 la [x] lb [xi] (by rw [HXI.out]; rfl) 1 rfl (by have := HLN.out; simp; omega) _ _ hsa hsb
          have hsa2 := (hsa.below hbf).more hbf.size
          have hsb2 := (hsb.below hbf).more hbf.size
          obtain ⟨z1, wz1, z2, wz2, z3, wg, hq1, hq2, hq3, hsg, hbg⟩ := glueN (P := Tryd.prog) wf 22 22 5 i8 Tryd.underlying22 hi8 hz8 hz81 hz82 la [0x80, x] lb [128, xi] (by rw [HXI.out]; rfl) 2 rfl (by have := HLN.out; simp; omega) _ _ hsa2 hsb2
          have HR1 := Lib.hid hr1; clear hr1
          have HR2 := Lib.hid hr2; clear hr2
          have HR3 := Lib.hid hr3; clear hr3
          have HQ1 := Lib.hid hq1; clear hq1
          have HQ2 := Lib.hid hq2; clear hq2
          have HQ3 := Lib.hid hq3; clear hq3
          have HSG1 := Lib.hid ((hsf.below hbg).more hbg.size); clear hsf
          have HSG2 := Lib.hid hsg; clear hsg
          have HBG := Lib.hid ((HB1.out).trans ((hbf.trans (hbg.mono hbf.size)).mono (HB1.out).size))
          have ksa := hsa2.below hbg
          have ksb := hsb2.below hbg
          have ksa := ksa.more hbg.size
          have ksb := ksb.more hbg.size
          clear hbg hbf hsa hsb hsa2 hsb2
          have k1 : ∀ W, Below wg.heap.size wg W → (convert 22 9 (.slice aa A ca)).run Tryd.prog W = .ok (.string (bs la)) W := fun W hW =>
            conv_any Tryd.underlying22 Tryd.underlying5 Tryd.underlying9 (ksa.below hW)
          have k2 : ∀ W, Below wg.heap.size wg W → (convert 22 9 (.slice ab N cb)).run Tryd.prog W = .ok (.string (bs lb)) W := fun W hW =>
            conv_any Tryd.underlying22 Tryd.underlying5 Tryd.underlying9 (ksb.below hW)
          obtain ⟨qa, hqa⟩ : ∃ qa, qa = la ++ [x] ++ lb := ⟨_, rfl⟩
          have hql : qa.length ≤ 1000 := by rw [hqa]; have := HLN.out; simp; omega
          have hsg1 := HSG1.out
          have hd3 := HD3.out
          rw [← hqa] at hsg1 hd3
          have HQD3 := Lib.hid hd3; clear hd3
          clear hqa
          have k3 : ∀ W, Below wg.heap.size wg W → (convert 22 9 y3).run Tryd.prog W = .ok (.string (bs qa)) W := fun W hW =>
            conv_any Tryd.underlying22 Tryd.underlying5 Tryd.underlying9 (hsg1.below hW)
          clear ksa ksb hsg1
          have ka : ¬ 9223372036854775807 < la.length + 3 := by have := HLN.out; omega
          have kb : ¬ 9223372036854775807 < la.length + 3 + lb.length := by have := HLN.out; omega
          have kc : ¬ 9223372036854775807 < la.length + 6 := by have := HLN.out; omega
          have kd : ¬ 9223372036854775807 < la.length + 6 + lb.length := by have := HLN.out; omega
          obtain ⟨r1, hr1⟩ : ∃ r1, r1 = la ++ [0xef, 0xbf, 0xbd] ++ lb := ⟨_, rfl⟩
          obtain ⟨r2, hr2⟩ : ∃ r2, r2 = la ++ [0xef, 0xbf, 0xbd, 0xef, 0xbf, 0xbd] ++ lb := ⟨_, rfl⟩
          have g1 : ((bs r1).toList == (bs la ++ ⟨#[239, 191, 189]⟩ ++ bs lb).toList) = true := by rw [hr1]; exact bs3_eq la [0xef, 0xbf, 0xbd] lb _ rfl
          have g2 : ((bs r2).toList == (bs la ++ ⟨#[239, 191, 189, 239, 191, 189]⟩ ++ bs lb).toList) = true := by rw [hr2]; exact bs3_eq la [0xef, 0xbf, 0xbd, 0xef, 0xbf, 0xbd] lb _ rfl
          have hd1 := HD1.out
          have hd2 := HD2.out
          rw [← hr1] at hd1
          rw [← hr2] at hd2
          have HE1 := Lib.hid hd1; clear hd1 hr1
          have HE2 := Lib.hid hd2; clear hd2 hr2
          have HTG := Lib.hid (HT.out.below HBG.out)
          go_wp2_with (at_builtin; first
            | (refine append_run rfl (.tmp 50) (.tmp 51) _ _ rfl _ _ _ _ rfl rfl HR1.out ?_)
            | (refine append_run rfl (.tmp 52) (.tmp 54) _ _ rfl _ _ _ _ rfl rfl HR2.out ?_)
            | (refine append_run rfl (.tmp 55) (.tmp 56) _ _ rfl _ _ _ _ rfl rfl HR3.out ?_)
            | (refine append_run rfl (.tmp 58) (.tmp 59) _ _ rfl _ _ _ _ rfl rfl HQ1.out ?_)
            | (refine append_run rfl (.tmp 60) (.tmp 62) _ _ rfl _ _ _ _ rfl rfl HQ2.out ?_)
            | (refine append_run rfl (.tmp 63) (.tmp 64) _ _ rfl _ _ _ _ rfl rfl HQ3.out ?_))
          refine wp_region_held_drew (S := fun W => Below wg.heap.size wg W) (by kernel_rfl) (by exact bz_drew (bz_refl _)) (fun hHeld => ?_)
          refine tk 0 (v := ?_) rfl (by kernel_rfl) (by kernel_rfl) (by kernel_rfl) (fun _ _ _ h => h) (by rfl) (by assumption) (fun w hSw => ?_) ?_
          rotate_left
          · (try dsimp only at hSw); go_simp; first | done | with_reducible rfl   -- move
          try simp only [Act.put, List.setIfInBounds_toArray, List.set_cons_zero, List.set_cons_succ]
          refine tk 1 (v := ?_) rfl (by kernel_rfl) (by kernel_rfl) (by kernel_rfl) (fun _ _ _ h => h) (by rfl) (by assumption) (fun w hSw => ?_) ?_
          rotate_left
          · (try dsimp only at hSw); go_simp; first | done | with_reducible rfl   -- move
          try simp only [Act.put, List.setIfInBounds_toArray, List.set_cons_zero, List.set_cons_succ]
          refine tk 2 (v := ?_) rfl (by kernel_rfl) (by kernel_rfl) (by kernel_rfl) (fun _ _ _ h => h) (by rfl) (by assumption) (fun w hSw => ?_) ?_
          rotate_left
          · (try dsimp only at hSw); go_simp; first | done | with_reducible rfl   -- move
          try simp only [Act.put, List.setIfInBounds_toArray, List.set_cons_zero, List.set_cons_succ]
          refine tk 4 (v := ?_) rfl (by kernel_rfl) (by kernel_rfl) (by kernel_rfl) (fun _ _ _ h => h) (by rfl) (by assumption) (fun w hSw => ?_) ?_
          rotate_left
          · (try dsimp only at hSw); go_simp; first | done | with_reducible rfl   -- move
          try simp only [Act.put, List.setIfInBounds_toArray, List.set_cons_zero, List.set_cons_succ]
          refine tk 5 (v := ?_) rfl (by kernel_rfl) (by kernel_rfl) (by kernel_rfl) (fun _ _ _ h => h) (by rfl) (by assumption) (fun w hSw => ?_) ?_
          rotate_left
          · (try dsimp only at hSw); go_simp; first | done | with_reducible rfl   -- convert
          try simp only [Act.put, List.setIfInBounds_toArray, List.set_cons_zero, List.set_cons_succ]
          refine tk 6 (v := ?_) rfl (by kernel_rfl) (by kernel_rfl) (by kernel_rfl) (fun _ _ _ h => h) (by rfl) (by assumption) (fun w hSw => ?_) ?_
          rotate_left
          · (try dsimp only at hSw); go_simp; first | done | with_reducible rfl   -- binOp
          try simp only [Act.put, List.setIfInBounds_toArray, List.set_cons_zero, List.set_cons_succ]
          refine tk 7 (v := ?_) rfl (by kernel_rfl) (by kernel_rfl) (by kernel_rfl) (fun _ _ _ h => h) (by rfl) (by assumption) (fun w hSw => ?_) ?_
          rotate_left
          · (try dsimp only at hSw); go_simp; first | done | with_reducible rfl   -- move
          try simp only [Act.put, List.setIfInBounds_toArray, List.set_cons_zero, List.set_cons_succ]
          refine tk 8 (v := ?_) rfl (by kernel_rfl) (by kernel_rfl) (by kernel_rfl) (fun _ _ _ h => h) (by rfl) (by assumption) (fun w hSw => ?_) ?_
          rotate_left
          · (try dsimp only at hSw); go_simp; first | done | with_reducible rfl   -- convert
          try simp only [Act.put, List.setIfInBounds_toArray, List.set_cons_zero, List.set_cons_succ]
          refine tk 9 (v := ?_) rfl (by kernel_rfl) (by kernel_rfl) (by kernel_rfl) (fun _ _ _ h => h) (by rfl) (by assumption) (fun w hSw => ?_) ?_
          rotate_left
          · (try dsimp only at hSw); go_simp; first | done | with_reducible rfl   -- binOp
          try simp only [Act.put, List.setIfInBounds_toArray, List.set_cons_zero, List.set_cons_succ]
          refine rn 3 (by kernel_rfl) rfl (by rfl) (fun K hK => ?_)   -- call of tamis/text.Decode
          go_simp
          refine (decode_in (wg := wg) _ (la ++ [x] ++ lb) r1 _ HE1.out HSG1.out (by first | assumption | exact bz_drew (bz_refl _) | exact bz_drew (by assumption)) (by have := HLN.out; (try simp only [List.length_append, List.length_cons, List.length_nil]); omega) HTG.out).mono ?_
          rintro e w7 ⟨rfl, hb7⟩
          replace hb7 := bz_step (a := wg) (by first | assumption | exact bz_drew (bz_refl _) | exact bz_drew (by assumption)) hb7
          try go_wp2_with fail
          refine hK.out _ _ ?_ (fun hHeld1 => ?_)
          · (try dsimp only); first | assumption | exact bz_drew (bz_alloc (by assumption)) | exact bz_alloc (by assumption) | exact bz_drew (by assumption)
          clear hK K
          try simp only [Act.put, List.setIfInBounds_toArray, List.set_cons_zero, List.set_cons_succ]
          refine tk 10 (v := ?_) rfl (by kernel_rfl) (by kernel_rfl) (by kernel_rfl) (fun _ _ _ h => h) (by rfl) (by assumption) (fun w hSw => ?_) ?_
          rotate_left
          · (try dsimp only at hSw); go_simp; first | done | with_reducible rfl   -- binOp
          try simp only [Act.put, List.setIfInBounds_toArray, List.set_cons_zero, List.set_cons_succ]
          refine tk 11 (v := ?_) rfl (by kernel_rfl) (by kernel_rfl) (by kernel_rfl) (fun _ _ _ h => h) (by rfl) (by assumption) (fun w hSw => ?_) ?_
          rotate_left
          · (try dsimp only at hSw); go_simp; first | done | with_reducible rfl   -- pick
          try simp only [Act.put, List.setIfInBounds_toArray, List.set_cons_zero, List.set_cons_succ]
          refine tk 12 (v := ?_) rfl (by kernel_rfl) (by kernel_rfl) (by kernel_rfl) (fun _ _ _ h => h) (by rfl) (by assumption) (fun w hSw => ?_) ?_
          rotate_left
          · (try dsimp only at hSw); go_simp; first | done | with_reducible rfl   -- move
          try simp only [Act.put, List.setIfInBounds_toArray, List.set_cons_zero, List.set_cons_succ]
          refine tk 13 (v := ?_) rfl (by kernel_rfl) (by kernel_rfl) (by kernel_rfl) (fun _ _ _ h => h) (by rfl) (by assumption) (fun w hSw => ?_) ?_
          rotate_left
          · (try dsimp only at hSw); go_simp; first | done | with_reducible rfl   -- move
          try simp only [Act.put, List.setIfInBounds_toArray, List.set_cons_zero, List.set_cons_succ]
          refine tk 15 (v := ?_) rfl (by kernel_rfl) (by kernel_rfl) (by kernel_rfl) (fun _ _ _ h => h) (by rfl) (by assumption) (fun w hSw => ?_) ?_
          rotate_left
          · (try dsimp only at hSw); go_simp; first | done | with_reducible rfl   -- move
          try simp only [Act.put, List.setIfInBounds_toArray, List.set_cons_zero, List.set_cons_succ]
          refine tk 16 (v := ?_) rfl (by kernel_rfl) (by kernel_rfl) (by kernel_rfl) (fun _ _ _ h => h) (by rfl) (by assumption) (fun w hSw => ?_) ?_
          rotate_left
          · (try dsimp only at hSw); go_simp; first | done | with_reducible rfl   -- convert
          try simp only [Act.put, List.setIfInBounds_toArray, List.set_cons_zero, List.set_cons_succ]
          refine tk 17 (v := ?_) rfl (by kernel_rfl) (by kernel_rfl) (by kernel_rfl) (fun _ _ _ h => h) (by rfl) (by assumption) (fun w hSw => ?_) ?_
          rotate_left
          · (try dsimp only at hSw); go_simp; first | done | with_reducible rfl   -- binOp
          try simp only [Act.put, List.setIfInBounds_toArray, List.set_cons_zero, List.set_cons_succ]
          refine tk 18 (v := ?_) rfl (by kernel_rfl) (by kernel_rfl) (by kernel_rfl) (fun _ _ _ h => h) (by rfl) (by assumption) (fun w hSw => ?_) ?_
          rotate_left
          · (try dsimp only at hSw); go_simp; first | done | with_reducible rfl   -- move
          try simp only [Act.put, List.setIfInBounds_toArray, List.set_cons_zero, List.set_cons_succ]
          refine tk 19 (v := ?_) rfl (by kernel_rfl) (by kernel_rfl) (by kernel_rfl) (fun _ _ _ h => h) (by rfl) (by assumption) (fun w hSw => ?_) ?_
          rotate_left
          · (try dsimp only at hSw); go_simp; first | done | with_reducible rfl   -- convert
          try simp only [Act.put, List.setIfInBounds_toArray, List.set_cons_zero, List.set_cons_succ]
          refine tk 20 (v := ?_) rfl (by kernel_rfl) (by kernel_rfl) (by kernel_rfl) (fun _ _ _ h => h) (by rfl) (by assumption) (fun w hSw => ?_) ?_
          rotate_left
          · (try dsimp only at hSw); go_simp; first | done | with_reducible rfl   -- binOp
          try simp only [Act.put, List.setIfInBounds_toArray, List.set_cons_zero, List.set_cons_succ]
          refine rn 14 (by kernel_rfl) rfl (by rfl) (fun K hK => ?_)   -- call of tamis/text.Decode
          go_simp
          refine (decode_in (wg := wg) _ (la ++ [0x80, x] ++ lb) r2 _ HE2.out HSG2.out (by first | assumption | exact bz_drew (bz_refl _) | exact bz_drew (by assumption)) (by have := HLN.out; (try simp only [List.length_append, List.length_cons, List.length_nil]); omega) HTG.out).mono ?_
          rintro e w8 ⟨rfl, hb8⟩
          replace hb8 := bz_step (a := wg) (by first | assumption | exact bz_drew (bz_refl _) | exact bz_drew (by assumption)) hb8
          try go_wp2_with fail
          refine hK.out _ _ ?_ (fun hHeld2 => ?_)
          · (try dsimp only); first | assumption | exact bz_drew (bz_alloc (by assumption)) | exact bz_alloc (by assumption) | exact bz_drew (by assumption)
          clear hK K
          try simp only [Act.put, List.setIfInBounds_toArray, List.set_cons_zero, List.set_cons_succ]
          refine tk 21 (v := ?_) rfl (by kernel_rfl) (by kernel_rfl) (by kernel_rfl) (fun _ _ _ h => h) (by rfl) (by assumption) (fun w hSw => ?_) ?_
          rotate_left
          · (try dsimp only at hSw); go_simp; first | done | with_reducible rfl   -- binOp
          try simp only [Act.put, List.setIfInBounds_toArray, List.set_cons_zero, List.set_cons_succ]
          refine tk 22 (v := ?_) rfl (by kernel_rfl) (by kernel_rfl) (by kernel_rfl) (fun _ _ _ h => h) (by rfl) (by assumption) (fun w hSw => ?_) ?_
          rotate_left
          · (try dsimp only at hSw); go_simp; first | done | with_reducible rfl   -- pick
          try simp only [Act.put, List.setIfInBounds_toArray, List.set_cons_zero, List.set_cons_succ]
          refine tk 23 (v := ?_) rfl (by kernel_rfl) (by kernel_rfl) (by kernel_rfl) (fun _ _ _ h => h) (by rfl) (by assumption) (fun w hSw => ?_) ?_
          rotate_left
          · (try dsimp only at hSw); go_simp; first | done | with_reducible rfl   -- move
          try simp only [Act.put, List.setIfInBounds_toArray, List.set_cons_zero, List.set_cons_succ]
          refine tk 24 (v := ?_) rfl (by kernel_rfl) (by kernel_rfl) (by kernel_rfl) (fun _ _ _ h => h) (by rfl) (by assumption) (fun w hSw => ?_) ?_
          rotate_left
          · (try dsimp only at hSw); go_simp; first | done | with_reducible rfl   -- move
          try simp only [Act.put, List.setIfInBounds_toArray, List.set_cons_zero, List.set_cons_succ]
          refine tk 25 (v := ?_) rfl (by kernel_rfl) (by kernel_rfl) (by kernel_rfl) (fun _ _ _ h => h) (by rfl) (by assumption) (fun w hSw => ?_) ?_
          rotate_left
          · (try dsimp only at hSw); go_simp; first | done | with_reducible rfl   -- convert
          try simp only [Act.put, List.setIfInBounds_toArray, List.set_cons_zero, List.set_cons_succ]
          refine rn 26 (by kernel_rfl) rfl (by rfl) (fun K hK => ?_)   -- call of tamis/text.Right
          go_simp
          refine (right_in (wg := wg) (bs qa) false _ (by rw [ls_bs]; exact HQD3.out) (by first | assumption | exact bz_drew (bz_refl _) | exact bz_drew (by assumption)) (by rw [bs_size]; have := HLN.out; (try simp only [List.length_append, List.length_cons, List.length_nil]); omega) HTG.out).mono ?_
          rintro e w9 ⟨rfl, hb9⟩
          replace hb9 := bz_step (a := wg) (by first | assumption | exact bz_drew (bz_refl _) | exact bz_drew (by assumption)) hb9
          try go_wp2_with fail
          refine hK.out _ _ ?_ (fun hHeld3 => ?_)
          · (try dsimp only); first | assumption | exact bz_drew (bz_alloc (by assumption)) | exact bz_alloc (by assumption) | exact bz_drew (by assumption)
          clear hK K
          try simp only [Act.put, List.setIfInBounds_toArray, List.set_cons_zero, List.set_cons_succ]
          refine tk 27 (v := ?_) rfl (by kernel_rfl) (by kernel_rfl) (by kernel_rfl) (fun _ _ _ h => h) (by rfl) (by assumption) (fun w hSw => ?_) ?_
          rotate_left
          · (try dsimp only at hSw); go_simp; first | done | with_reducible rfl   -- unOp
          try simp only [Act.put, List.setIfInBounds_toArray, List.set_cons_zero, List.set_cons_succ]
          refine tk 28 (v := ?_) rfl (by kernel_rfl) (by kernel_rfl) (by kernel_rfl) (fun _ _ _ h => h) (by rfl) (by assumption) (fun w hSw => ?_) ?_
          rotate_left
          · (try dsimp only at hSw); go_simp; first | done | with_reducible rfl   -- pick
          try simp only [Act.put, List.setIfInBounds_toArray, List.set_cons_zero, List.set_cons_succ]
          refine tk 29 (v := ?_) rfl (by kernel_rfl) (by kernel_rfl) (by kernel_rfl) (fun _ _ _ h => h) (by rfl) (by assumption) (fun w hSw => ?_) ?_
          rotate_left
          · (try dsimp only at hSw); go_simp; first | done | with_reducible rfl   -- assign
          try simp only [Act.put, List.setIfInBounds_toArray, List.set_cons_zero, List.set_cons_succ]
          refine wpAnyH_done (by kernel_rfl) ?_ _
          go_wp2
          go_ret
          exact ⟨ret1_bool rfl, HBG.out.trans (hb9.mono (HBG.out).size)⟩

theorem textBroken_walk (va : Value) (la : Bytes) (c : Int) (vb : Value) (lb : Bytes) (w : World) (ha : Sl w.heap.size w va (Lib.byteCells la)) (hc : (Lit.int .u8 c).wf = true) (hb : Sl w.heap.size w vb (Lib.byteCells lb)) (hT : Tabs w) :
    Calls Tryd.prog 9 #[va, .int .u8 c, vb] w fun e w' => e = .returned (.bool true) ∧ Below w.heap.size w w' := by
  obtain ⟨aa, ca, rfl⟩ := slice_val ha
  obtain ⟨ab, cb, rfl⟩ := slice_val hb
  rw [Lib.byteCells_length] at ha hb ⊢
  rw [Lib.byteCells_length]
  have hr : 0 ≤ c ∧ c < 256 := by have := u8_range hc; omega
  have e1 : b2 (UInt8.ofNat c.toNat) = c := by unfold b2; rw [toNat_ofNat_lt (by omega)]; omega
  by_cases h : la.length ≤ 200 ∧ lb.length ≤ 200 ∧ 128 ≤ c
  · have := textBroken_core la lb (UInt8.ofNat c.toNat) aa ab ca cb w ha hb h.1 h.2.1 (by rw [e1]; exact h.2.2) hT
    rw [e1] at this
    exact this
  · have HT := Lib.hid hT; clear hT
    clear ha hb e1
    have h : (200 < la.length) ∨ (la.length ≤ 200 ∧ 200 < lb.length) ∨ (la.length ≤ 200 ∧ lb.length ≤ 200 ∧ c < 128) := by omega
    generalize la.length = A at *
    generalize lb.length = N at *
    rcases h with h | ⟨h, h1⟩ | ⟨h, h1, h2⟩
    all_goals
      go_enter Tryd.func9, Tryd.ntmps9
      go_wp2_with fail
      refine (small_any _ HT.out).mono ?_
      rintro e w1 ⟨rfl, hb1⟩
      have HB1 := Lib.hid hb1; clear hb1
      go_wp2
      go_ret
      exact ⟨rfl, HB1.out⟩
end Go.Proofs.YtichfpgamlgocaaDoor
