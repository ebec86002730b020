/- AthB AthD: joined. -/
import Derived.Test.YtjgenpooedkfmaaGreatDoorGSixF
import Derived.Test.YtjgenpooedkfmaaGreatDoorGSlic
/- The plain laws of layer 15: what was read is read again; who is named; texts that are hosts. -/
namespace Go.Proofs.YtjgenpooedkfmaaGreatDoor
open Go.RowKit
set_option maxRecDepth 10000

/-! ports -/
theorem dig10 : ∀ k : Fin 10, dgt (b2 (UInt8.ofNat (48 + k.val))) 10 = k.val := by decide +kernel
theorem whGo_app : ∀ (l m : Bytes) (n : Int), whGo n (l ++ m) = (whGo n l).bind fun v => whGo v m
  | [], m, n => rfl
  | c :: t, m, n => by
    rw [List.cons_append, whGo, whGo]
    split
    · rfl
    · exact whGo_app t m _
theorem wh_dec (u : Nat) (h : u ≤ 1000000) : whGo 0 (Lib.decDigits u) = some (u : Int) := by
  induction u using Nat.strongRecOn with
  | ind u ih =>
    by_cases h1 : u < 10
    · rw [Lib.decDigits_one h1, whGo]
      have := dig10 ⟨u, h1⟩
      simp only at this
      rw [this, if_neg (by omega), if_neg (by omega), whGo]
      congr 1
      omega
    · have e : Lib.decDigits u = Lib.decDigits (u / 10) ++ [UInt8.ofNat (48 + u % 10)] := by rw [Lib.decDigits, dif_neg h1]
      have := dig10 ⟨u % 10, by omega⟩
      simp only at this
      rw [e, whGo_app, ih (u / 10) (by omega) (by omega)]
      show whGo _ _ = _
      rw [whGo, this, if_neg (by omega), if_neg (by omega), whGo]
      congr 1
      omega
theorem dec_ne (u : Nat) : Lib.decDigits u ≠ [] := by
  intro h
  have h1 := Lib.decDigits_length u
  have h2 := Lib.nDigits_pos u
  rw [h] at h1
  simp at h1
  omega
theorem whGo_ge : ∀ (l : Bytes) (n v : Int), 0 ≤ n → whGo n l = some v → 0 ≤ v
  | [], n, v, h, e => by rw [whGo] at e; injection e with e; omega
  | c :: t, n, v, h, e => by
    rw [whGo] at e
    split at e
    · cases e
    · next hd =>
      refine whGo_ge t _ v ?_ e
      split <;> omega
theorem ap_ok {sch q : Bytes} {k : Int} {b : Bool} (h : apF sch q = some (k, b)) : (b = false ∧ k = 0) ∨ (b = true ∧ 0 ≤ k ∧ k ≤ 65535 ∧ ownF sch ≠ some k ∧ q ≠ []) := by
  unfold apF at h
  split at h
  · injection h with h; injection h with h1 h2; exact .inl ⟨h2.symm, h1.symm⟩
  · next hq =>
    cases hw : wholeF q with
    | none => rw [hw] at h; cases h
    | some n =>
      rw [hw] at h
      dsimp only at h
      split at h
      · cases h
      · next hn =>
        split at h
        · injection h with h; injection h with h1 h2; exact .inl ⟨h2.symm, h1.symm⟩
        · next ho =>
          injection h with h; injection h with h1 h2
          subst h1
          unfold wholeF at hw
          rw [if_neg hq] at hw
          have := whGo_ge q 0 n (by omega) hw
          exact .inr ⟨h2.symm, this, by omega, ho, hq⟩
theorem ap_back {sch : Bytes} {k : Int} (h0 : 0 ≤ k) (h1 : k ≤ 65535) (ho : ownF sch ≠ some k) : apF sch (Lib.itoa k) = some (k, true) := by
  obtain ⟨u, rfl⟩ : ∃ u : Nat, k = u := ⟨k.toNat, by omega⟩
  unfold apF
  rw [Lib.itoa_nonneg, if_neg (dec_ne u)]
  unfold wholeF
  rw [if_neg (dec_ne u), wh_dec u (by omega)]
  dsimp only
  rw [if_neg (by omega), if_neg ho]
theorem dec_byte (u : Nat) : ∀ y ∈ Lib.decDigits u, 48 ≤ b2 y ∧ b2 y ≤ 57 := by
  induction u using Nat.strongRecOn with
  | ind u ih =>
    have key : ∀ k : Fin 10, 48 ≤ b2 (UInt8.ofNat (48 + k.val)) ∧ b2 (UInt8.ofNat (48 + k.val)) ≤ 57 := by decide +kernel
    intro y hy
    by_cases h1 : u < 10
    · rw [Lib.decDigits_one h1] at hy
      rw [List.mem_singleton.mp hy]
      exact key ⟨u, h1⟩
    · have e : Lib.decDigits u = Lib.decDigits (u / 10) ++ [UInt8.ofNat (48 + u % 10)] := by rw [Lib.decDigits, dif_neg h1]
      rw [e] at hy
      rcases List.mem_append.mp hy with hy | hy
      · exact ih (u / 10) (by omega) y hy
      · rw [List.mem_singleton.mp hy]
        exact key ⟨u % 10, by omega⟩
/-! who is named -/
theorem pc5_facts : ∀ k : Fin 256, (pcF 5 (UInt8.ofNat k.val)).all (fun y => !inF 5 (b2 y)) = true := by decide +kernel
theorem pc5_in {l : Bytes} : ∀ y ∈ pcB 5 l, inF 5 (b2 y) = false := by
  intro y h
  obtain ⟨x, _, hy⟩ := List.mem_flatMap.mp h
  have hf := pc5_facts ⟨x.toNat, x.toNat_lt⟩
  simp only [UInt8.ofNat_toNat] at hf
  have := List.all_eq_true.mp hf y hy
  simpa using this
theorem pc5_same (l : Bytes) : pcB 5 (pcB 5 l) = pcB 5 l := pc_same pc5_in
theorem pc5_no {l : Bytes} : (58 : UInt8) ∉ pcB 5 l ∧ (64 : UInt8) ∉ pcB 5 l := by
  refine ⟨fun h => ?_, fun h => ?_⟩ <;>
  · have := pc5_in _ h
    revert this; decide
/-! what was read -/
structure AOk (sch : Bytes) (a : Ath) : Prop where
  h : ∃ n, hostP n (spF sch) = some a.host ∧ (n = [] → a.user = [] ∧ a.pass = [] ∧ a.hasPort = false)
  u : ∃ x, a.user = pcB 5 x
  p : ∃ x, a.pass = pcB 5 x
  q : (a.hasPort = false ∧ a.port = 0) ∨ (a.hasPort = true ∧ 0 ≤ a.port ∧ a.port ≤ 65535 ∧ ownF sch ≠ some a.port)
theorem fin_ok {sch n q u p : Bytes} {a : Ath} (h : finF sch n q u p = some a) (hu : ∃ x, u = pcB 5 x) (hp : ∃ x, p = pcB 5 x) (hn : n = [] → u = [] ∧ p = [] ∧ q = []) : AOk sch a := by
  unfold finF at h
  cases hh : hostP n (spF sch) with
  | none => rw [hh] at h; cases h
  | some g =>
    rw [hh] at h
    dsimp only at h
    cases hq : apF sch q with
    | none => rw [hq] at h; cases h
    | some v =>
      obtain ⟨k, b⟩ := v
      rw [hq] at h
      injection h with h
      subst h
      have hk := ap_ok hq
      refine ⟨⟨n, hh, fun e => ?_⟩, hu, hp, ?_⟩
      · obtain ⟨h1, h2, h3⟩ := hn e
        refine ⟨h1, h2, ?_⟩
        rcases hk with hk | hk
        · exact hk.1
        · exact absurd h3 hk.2.2.2.2
      · rcases hk with hk | hk
        · exact .inl hk
        · exact .inr ⟨hk.1, hk.2.1, hk.2.2.1, hk.2.2.2.1⟩
theorem rest_ok {sch s u p : Bytes} {a : Ath} (h : restF sch s u p = some a) (hu : ∃ x, u = pcB 5 x) (hp : ∃ x, p = pcB 5 x) (hs : s = [] → u = [] ∧ p = []) : AOk sch a := by
  unfold restF at h
  cases hc : colF false s with
  | none =>
    rw [hc] at h
    exact fin_ok h hu hp (fun e => ⟨(hs e).1, (hs e).2, rfl⟩)
  | some v =>
    obtain ⟨n, q⟩ := v
    rw [hc] at h
    dsimp only at h
    split at h
    · cases h
    · next hn => exact fin_ok h hu hp (fun e => absurd e hn)
theorem auth_ok {sch s : Bytes} {a : Ath} (h : authF sch s = some a) : AOk sch a := by
  unfold authF at h
  cases ha : atF s with
  | none =>
    rw [ha] at h
    exact rest_ok h ⟨[], rfl⟩ ⟨[], rfl⟩ (fun _ => ⟨rfl, rfl⟩)
  | some v =>
    obtain ⟨who, rest⟩ := v
    rw [ha] at h
    dsimp only at h
    split at h
    · cases h
    · next hr => exact rest_ok h ⟨_, rfl⟩ ⟨_, rfl⟩ (fun e => absurd e hr)
/-- as a text -/
def whoT (a : Ath) : Bytes := if a.user = [] ∧ a.pass = [] then [] else a.user ++ (if a.pass = [] then [] else 58 :: a.pass) ++ [64]
def portT (a : Ath) : Bytes := if a.hasPort = true then 58 :: Lib.itoa a.port else []
def wtF (a : Ath) : Bytes := whoT a ++ hostF a.host ++ portT a
theorem port_no {sch : Bytes} {a : Ath} (q : (a.hasPort = false ∧ a.port = 0) ∨ (a.hasPort = true ∧ 0 ≤ a.port ∧ a.port ≤ 65535 ∧ ownF sch ≠ some a.port)) : (64 : UInt8) ∉ portT a := by
  unfold portT
  rcases q with q | q
  · rw [if_neg (by simp [q.1])]; simp
  · rw [if_pos q.1]
    obtain ⟨u, hu⟩ : ∃ u : Nat, a.port = u := ⟨a.port.toNat, by omega⟩
    rw [hu, Lib.itoa_nonneg]
    intro h
    rcases List.mem_cons.mp h with h | h
    · revert h; decide
    · have := dec_byte u _ h
      have e : b2 64 = 64 := by decide
      omega
theorem kind_one {s : Bytes} {sp : Bool} {h : Hst} (e : hostP s sp = some h) (hk : h.kind = 1) : s = [] := by
  cases hkind e with
  | six a h8 ha hs => exact absurd hk (by simp)
  | name n e hs hd hn hb he => exact absurd hk (by simp)
  | four n e hs h => exact absurd hk (by simp)
  | empty e h => exact h
  | opaq e hs h hb => exact absurd hk (by simp)
theorem rest_back {sch : Bytes} {a : Ath} (ok : AOk sch a) : restF sch (hostF a.host ++ portT a) a.user a.pass = some a := by
  obtain ⟨⟨n, hh, hn⟩, _, _, q⟩ := ok
  obtain ⟨b1, _, b3⟩ := host_back hh
  unfold restF
  rw [host_col hh]
  rcases q with ⟨q1, q2⟩ | ⟨q1, q2, q3, q4⟩
  · have ep : portT a = [] := by unfold portT; rw [if_neg (by simp [q1])]
    rw [ep]
    rw [show colF false ([] : Bytes) = none from rfl, Option.map_none]
    dsimp only
    rw [List.append_nil]
    unfold finF
    rw [b1]
    dsimp only
    rw [show apF sch [] = some (0, false) from rfl]
    dsimp only
    rw [← q1, ← q2]
  · have ep : portT a = 58 :: Lib.itoa a.port := by unfold portT; rw [if_pos q1]
    rw [ep]
    have ec : colF false (58 :: Lib.itoa a.port) = some ([], Lib.itoa a.port) := by rw [colF, if_pos ⟨rfl, rfl⟩]
    rw [ec, Option.map_some]
    dsimp only
    rw [List.append_nil]
    have hne : hostF a.host ≠ [] := by
      intro e
      have hk := b3.mp e
      have hn0 := kind_one hh hk
      have := (hn hn0).2.2
      rw [q1] at this; cases this
    rw [if_neg hne]
    unfold finF
    rw [b1]
    dsimp only
    rw [ap_back q2 q3 q4]
    dsimp only
    rw [← q1]
/-- AuthorityBack: what was read is read again as it is written -/
theorem auth_back_ok {sch : Bytes} {a : Ath} (ok : AOk sch a) : authF sch (wtF a) = some a := by
  have hr := rest_back ok
  obtain ⟨⟨n, hh, hn⟩, ⟨x, hx⟩, ⟨y, hy⟩, q⟩ := id ok
  have hno : (64 : UInt8) ∉ hostF a.host ++ portT a := fun hm => by
    rcases List.mem_append.mp hm with hm | hm
    · exact host_at hh hm
    · exact port_no q hm
  unfold authF
  by_cases hw : a.user = [] ∧ a.pass = []
  · have e : wtF a = hostF a.host ++ portT a := by unfold wtF whoT; rw [if_pos hw]; simp
    rw [e, at_none hno]
    rw [hw.1, hw.2] at hr
    exact hr
  · have e : wtF a = (a.user ++ (if a.pass = [] then [] else 58 :: a.pass)) ++ 64 :: (hostF a.host ++ portT a) := by unfold wtF whoT; rw [if_neg hw]; simp
    rw [e, at_split _ hno]
    dsimp only
    have hne : hostF a.host ++ portT a ≠ [] := by
      intro e
      have e1 := (List.append_eq_nil_iff.mp e).1
      have hk := (host_back hh).2.2.mp e1
      have hn0 := kind_one hh hk
      exact hw ⟨(hn hn0).1, (hn hn0).2.1⟩
    rw [if_neg hne]
    have hcut : cutF (a.user ++ (if a.pass = [] then [] else 58 :: a.pass)) = (a.user, a.pass) := by
      have h58 : (58 : UInt8) ∉ a.user := by rw [hx]; exact pc5_no.1
      by_cases hp : a.pass = []
      · rw [if_pos hp, List.append_nil, cut_none h58, hp]
      · rw [if_neg hp, cut_split _ _ h58]
    rw [hcut]
    dsimp only
    have e1 : pcB 5 a.user = a.user := by rw [hx, pc5_same]
    have e2 : pcB 5 a.pass = a.pass := by rw [hy, pc5_same]
    rw [e1, e2]
    exact hr
end Go.Proofs.YtjgenpooedkfmaaGreatDoor

/- record.Special, record.Port, number.Whole, authority.colon, authority.Cut, authority.Port: what they answer. -/
namespace Go.Proofs.YtjgenpooedkfmaaGreatDoor
open Go.RowKit
set_option maxRecDepth 10000

theorem sEq (s t : Bytes) : ((bs s).toList == (bs t).toList) = decide (s = t) := by rw [toList_bs, toList_bs, eq_dec]
set_option maxHeartbeats 2000000 in
theorem special_any (s : Bytes) (w : World) : Calls Tryz.prog 12 #[.string (bs s)] w fun e w' => e = .returned (.bool (spF s)) ∧ w' = w := by
  have e1 := sEq s [102, 116, 112]
  have e2 := sEq s [102, 105, 108, 101]
  have e3 := sEq s [104, 116, 116, 112]
  have e4 := sEq s [104, 116, 116, 112, 115]
  have e5 := sEq s [119, 115]
  have e6 := sEq s [119, 115, 115]
  have hR : spF s = (decide (s = [102, 116, 112]) || decide (s = [102, 105, 108, 101]) || decide (s = [104, 116, 116, 112]) || decide (s = [104, 116, 116, 112, 115]) || decide (s = [119, 115]) || decide (s = [119, 115, 115])) := by
    unfold spF
    rw [eq_dec, eq_dec, eq_dec, eq_dec, eq_dec, eq_dec]
  rw [hR]
  generalize decide (s = [102, 116, 112]) = b1 at e1 ⊢
  generalize decide (s = [102, 105, 108, 101]) = b2 at e2 ⊢
  generalize decide (s = [104, 116, 116, 112]) = b3 at e3 ⊢
  generalize decide (s = [104, 116, 116, 112, 115]) = b4 at e4 ⊢
  generalize decide (s = [119, 115]) = b5 at e5 ⊢
  generalize decide (s = [119, 115, 115]) = b6 at e6 ⊢
  clear hR
  generalize bs s = S at *
  rw [toList_bs] at e1 e2 e3 e4 e5 e6
  cases b1
  · cases b2
    · cases b3
      · cases b4
        · cases b5
          · cases b6 <;>
            · go_enter Tryz.func12, Tryz.ntmps12
              go_wp2_with fail
              go_ret
              exact ⟨rfl, rfl⟩
          · go_enter Tryz.func12, Tryz.ntmps12
            go_wp2_with fail
            go_ret
            exact ⟨rfl, rfl⟩
        · go_enter Tryz.func12, Tryz.ntmps12
          go_wp2_with fail
          go_ret
          exact ⟨rfl, rfl⟩
      · go_enter Tryz.func12, Tryz.ntmps12
        go_wp2_with fail
        go_ret
        exact ⟨rfl, rfl⟩
    · go_enter Tryz.func12, Tryz.ntmps12
      go_wp2_with fail
      go_ret
      exact ⟨rfl, rfl⟩
  · go_enter Tryz.func12, Tryz.ntmps12
    go_wp2_with fail
    go_ret
    exact ⟨rfl, rfl⟩
set_option maxHeartbeats 2000000 in
theorem rport_any (s : Bytes) (w : World) : Calls Tryz.prog 20 #[.string (bs s)] w fun e w' => e = .returned (.tuple #[.int .i64 ((ownF s).getD 0), .bool (ownF s).isSome]) ∧ w' = w := by
  have e1 := sEq s [102, 116, 112]
  have e3 := sEq s [104, 116, 116, 112]
  have e4 := sEq s [104, 116, 116, 112, 115]
  have e5 := sEq s [119, 115]
  have e6 := sEq s [119, 115, 115]
  unfold ownF
  by_cases b1 : s = [102, 116, 112]
  · rw [decide_eq_true b1] at e1
    rw [if_pos b1]
    clear b1
    generalize bs s = S at *
    rw [toList_bs] at e1 e3 e4 e5 e6
    go_enter Tryz.func20, Tryz.ntmps20
    go_wp2_with fail
    go_ret2
    exact ⟨rfl, rfl⟩
  rw [decide_eq_false b1] at e1
  rw [if_neg b1]
  clear b1
  by_cases b3 : s = [104, 116, 116, 112]
  · rw [decide_eq_true b3] at e3
    rw [if_pos (.inl b3)]
    clear b3
    generalize bs s = S at *
    rw [toList_bs] at e1 e3 e4 e5 e6
    go_enter Tryz.func20, Tryz.ntmps20
    go_wp2_with fail
    go_ret2
    exact ⟨rfl, rfl⟩
  rw [decide_eq_false b3] at e3
  by_cases b5 : s = [119, 115]
  · rw [decide_eq_true b5] at e5
    rw [if_pos (.inr b5)]
    clear b5 b3
    generalize bs s = S at *
    rw [toList_bs] at e1 e3 e4 e5 e6
    go_enter Tryz.func20, Tryz.ntmps20
    go_wp2_with fail
    go_ret2
    exact ⟨rfl, rfl⟩
  rw [decide_eq_false b5] at e5
  rw [if_neg (fun h => h.elim b3 b5)]
  clear b3 b5
  by_cases b4 : s = [104, 116, 116, 112, 115]
  · rw [decide_eq_true b4] at e4
    rw [if_pos (.inl b4)]
    clear b4
    generalize bs s = S at *
    rw [toList_bs] at e1 e3 e4 e5 e6
    go_enter Tryz.func20, Tryz.ntmps20
    go_wp2_with fail
    go_ret2
    exact ⟨rfl, rfl⟩
  rw [decide_eq_false b4] at e4
  by_cases b6 : s = [119, 115, 115]
  · rw [decide_eq_true b6] at e6
    rw [if_pos (.inr b6)]
    clear b4 b6
    generalize bs s = S at *
    rw [toList_bs] at e1 e3 e4 e5 e6
    go_enter Tryz.func20, Tryz.ntmps20
    go_wp2_with fail
    go_ret2
    exact ⟨rfl, rfl⟩
  rw [decide_eq_false b6] at e6
  rw [if_neg (fun h => h.elim b4 b6)]
  clear b4 b6
  generalize bs s = S at *
  rw [toList_bs] at e1 e3 e4 e5 e6
  go_enter Tryz.func20, Tryz.ntmps20
  go_wp2_with fail
  go_ret2
  exact ⟨rfl, rfl⟩
/-! number.Whole -/
theorem wh_step (n : Int) {l : Bytes} {k : Nat} (h : k < l.length) : whGo n (l.drop k) = if dgt (b2 l[k]) 10 < 0 then none else whGo (if (9223372036854775807 - dgt (b2 l[k]) 10) / 10 < n then 9223372036854775807 else n * 10 + dgt (b2 l[k]) 10) (l.drop (k + 1)) := by
  rw [List.drop_eq_getElem_cons h]; rfl
theorem dgt10 (c : Int) : -1 ≤ dgt c 10 ∧ dgt c 10 < 10 := by
  unfold dgt
  simp only
  split <;> (try split) <;> (try split) <;> (try split) <;> omega
set_option maxHeartbeats 4000000 in
theorem whole_any (l : Bytes) (w : World) (hl : l.length ≤ 1000000) :
    Calls Tryz.prog 52 #[.string (bs l)] w fun e w' => e = .returned (.tuple #[.int .i64 ((wholeF l).getD 0), .bool (wholeF l).isSome]) ∧ w' = w := by
  obtain ⟨R, hR⟩ : ∃ R, R = whGo 0 l := ⟨_, rfl⟩
  unfold wholeF
  rw [← hR]
  have HR := Lib.hid hR; clear hR
  obtain ⟨s, hs⟩ : ∃ s, s = bs l := ⟨_, rfl⟩
  have hsz : s.size = l.length := by rw [hs, bs_size]
  have hby : ∀ k (hk : k < s.size) (hk2 : k < l.length), ((s[k]'hk).toNat : Int) = b2 l[k] := fun k hk hk2 => str_at hs hk hk2
  have hemp : (s.toList = []) ↔ l = [] := by rw [hs, toList_bs]
  rw [← hs]
  clear hs
  obtain ⟨N, hN⟩ : ∃ N, N = s.size := ⟨_, rfl⟩
  have hsN : s.size = N := hN.symm
  have hNm : N ≤ 1000000 := by omega
  have HBY := Lib.hid hby; clear hby
  have HSZ := Lib.hid hsz; clear hsz hl hN
  by_cases hnil : l = []
  · rw [if_pos hnil]
    have he := hemp.mpr hnil
    have he1 : s.toList.isEmpty = true := by simpa using he
    clear hemp
    go_enter Tryz.func52, Tryz.ntmps52
    go_wp2_with fail
    go_ret2
    exact ⟨rfl, rfl⟩
  · rw [if_neg hnil]
    have he : ¬ s.toList = [] := fun h => hnil (hemp.mp h)
    have he1 : s.toList.isEmpty = false := by simpa using he
    clear hemp
    have HNIL := Lib.hid hnil; clear hnil
    go_enter Tryz.func52, Tryz.ntmps52
    go_wp2_with fail
    go_loopw [4, 11] (fun nv iv wr => ∃ (k : Nat) (n : Int), k ≤ N ∧ iv = .int .i64 k ∧ nv = .int .i64 n ∧ Hid (whGo n (l.drop k) = R) ∧ 0 ≤ n ∧ n ≤ 9223372036854775807 ∧ w = wr) (fun _ i _ => N - (intOf i).toNat)
    case atStart => exact ⟨0, 0, by omega, by simp, by simp, HR.out.symm, by omega, by omega, rfl⟩
    case round =>
      obtain ⟨k, n, hk, rfl, rfl, hd, hn0, hn1, rfl⟩ := hrel
      by_cases hlt : k < N
      · have hku : k < s.size := by omega
        have hkl : k < l.length := by have := HSZ.out; omega
        have hx := HBY.out k hku hkl
        have hst := wh_step n hkl
        rw [hd.out] at hst
        have hr := b2_lt l[k]
        have hda := fun W => digitA_any (b2 l[k]) 10 W hr (by omega)
        have hlo := dgt10 (b2 l[k])
        obtain ⟨D, hD⟩ : ∃ D, D = dgt (b2 l[k]) 10 := ⟨_, rfl⟩
        rw [← hD] at hst hda hlo
        clear hD
        generalize b2 l[k] = X at hx hr hda
        have HDA := Lib.hid hda; clear hda hd
        by_cases hD0 : D < 0
        · rw [if_pos hD0] at hst
          have HST := Lib.hid hst; clear hst
          go_wp2_with (first | (go_at_call 51; refine (HDA.out _).mono ?_; rintro e w2 ⟨rfl, rfl⟩) | fail)
          go_ret2
          exact ⟨by rw [HST.out]; rfl, rfl⟩
        · rw [if_neg hD0] at hst
          have hw1 : IntKind.i64.wrap (9223372036854775807 - D) = 9223372036854775807 - D := IntWalk.i64_in _ (by omega)
          obtain ⟨M, hM⟩ : ∃ M, M = 9223372036854775807 - D := ⟨_, rfl⟩
          rw [← hM] at hw1 hst
          have hM0 : 0 ≤ M := by omega
          have hdv : Int.tdiv M 10 = M / 10 := Int.tdiv_eq_ediv_of_nonneg hM0
          have hq1 : 0 ≤ M / 10 ∧ M / 10 ≤ 922337203685477580 := by omega
          have hw2 : IntKind.i64.wrap (M / 10) = M / 10 := IntWalk.i64_in _ (by omega)
          by_cases hmn : M / 10 < n
          · rw [if_pos hmn] at hst
            have HST := Lib.hid hst; clear hst
            go_wp2_with (first | (go_at_call 51; refine (HDA.out _).mono ?_; rintro e w2 ⟨rfl, rfl⟩) | fail)
            go_roundw
            case rel => exact ⟨k + 1, 9223372036854775807, by omega, by simp, by simp, HST.out.symm, by omega, by omega, by trivial⟩
            case measure => simp [intOf]; omega
          · rw [if_neg hmn] at hst
            have HST := Lib.hid hst; clear hst
            obtain ⟨Z, hZ⟩ : ∃ Z, Z = n * 10 := ⟨_, rfl⟩
            have hw3 : IntKind.i64.wrap (n * 10) = n * 10 := IntWalk.i64_in _ (by omega)
            have hw4 : IntKind.i64.wrap (n * 10 + D) = n * 10 + D := IntWalk.i64_in _ (by omega)
            clear hZ
            go_wp2_with (first | (go_at_call 51; refine (HDA.out _).mono ?_; rintro e w2 ⟨rfl, rfl⟩) | fail)
            go_roundw
            case rel => exact ⟨k + 1, n * 10 + D, by omega, by simp, by simp, HST.out.symm, by omega, by omega, by trivial⟩
            case measure => simp [intOf]; omega
      · obtain rfl : k = N := by omega
        have hdr : l.drop k = [] := List.drop_eq_nil_of_le (by have := HSZ.out; omega)
        have hd1 := hd.out
        rw [hdr] at hd1
        have HST := Lib.hid (show some n = R from hd1); clear hd1 hd
        go_wp2_with fail
        go_ret2
        exact ⟨by rw [← HST.out]; rfl, rfl⟩
end Go.Proofs.YtjgenpooedkfmaaGreatDoor
