/- AthW PrsJ AthX: joined. -/
import Derived.Test.YtjgenpooedkfmaaGreatDoorGAthH
import Derived.Test.YtjgenpooedkfmaaGreatDoorGNumT
import Derived.Test.YtjgenpooedkfmaaGreatDoorGHlwA
import Derived.Test.YtjgenpooedkfmaaGreatDoorGAthB
/- Who is asked, and where, as a text: the law's own write. -/
namespace Go.Proofs.YtjgenpooedkfmaaGreatDoor
open Go.RowKit
set_option maxRecDepth 10000

def uOf (a : Ath) : Url := { U0 with usr := a.user, pas := a.pass, host := a.host, hasPort := a.hasPort, port := a.port }
theorem ser_wt {a : Ath} (hk : a.host.kind ≠ 0) : serF (uOf a) false = 58 :: 47 :: 47 :: wtF a := by
  unfold serF aheadF
  rw [if_neg (show ¬ (uOf a).host.kind = 0 from hk)]
  have e1 : pathF (uOf a) = [] := rfl
  have e2 : qF (uOf a) = [] := rfl
  have e3 : frF (uOf a) false = [] := rfl
  have e4 : whoF (uOf a) = whoT a := by
    unfold whoF whoT
    show (if a.user = [] ∧ a.pass = [] then [] else if a.pass = [] then a.user ++ [64] else a.user ++ [58] ++ a.pass ++ [64]) = _
    by_cases h1 : a.user = [] ∧ a.pass = []
    · rw [if_pos h1, if_pos h1]
    · rw [if_neg h1, if_neg h1]
      by_cases h2 : a.pass = []
      · rw [if_pos h2, if_pos h2, List.append_nil]
      · rw [if_neg h2, if_neg h2]; simp
  have e5 : portF (uOf a) = portT a := by
    unfold portF portT
    rfl
  rw [e1, e2, e3, e4, e5]
  show [] ++ [58] ++ ([47, 47] ++ whoT a ++ hostF a.host ++ portT a) ++ [] ++ [] ++ [] = _
  unfold wtF
  simp
theorem ath_cells (A : Ath) (h8 : A.host.six.length = 8) : (aCells A)[0]? = some (S A.user) ∧ (aCells A)[1]? = some (S A.pass) ∧ (aCells A)[13]? = some (.bool A.hasPort) ∧ (aCells A)[14]? = some (.int .i64 A.port) ∧ (aCells A)[2]? = some (.int .i64 A.host.kind) := by
  obtain ⟨u, p, ⟨k, nm, f, six⟩, hp, po⟩ := A
  simp only at h8
  obtain ⟨b1, b2, b3, b4, b5, b6, b7, b8, rfl⟩ := eight h8
  exact ⟨rfl, rfl, rfl, rfl, rfl⟩
theorem ath_hst (a : Ath) : ∀ j v, (hstCells a.host)[j]? = some v → (aCells a)[2 + j]? = some v := by
  intro j v h
  have hj := (List.getElem?_eq_some_iff.1 h).1
  rw [List.getElem?_toArray]
  unfold athCells
  rw [List.append_assoc, List.getElem?_append_right (by simp), List.getElem?_append_left (by simp; omega)]
  simpa using h
end Go.Proofs.YtjgenpooedkfmaaGreatDoor

/- Plain laws of layer 17: what was read is read again as it is written. -/
namespace Go.Proofs.YtjgenpooedkfmaaGreatDoor
open Go.RowKit
set_option maxRecDepth 10000

/-! bytes that part nothing -/
def fineB (y : UInt8) : Prop := 32 < b2 y ∧ y ≠ 35 ∧ y ≠ 63
def plainB (y : UInt8) : Prop := fineB y ∧ y ≠ 47 ∧ y ≠ 92
instance (y : UInt8) : Decidable (fineB y) := by unfold fineB; infer_instance
instance (y : UInt8) : Decidable (plainB y) := by unfold plainB; infer_instance
theorem all_bytes {P : UInt8 → Prop} [DecidablePred P] (h : ∀ k : Fin 256, P (UInt8.ofNat k.val)) (y : UInt8) : P y := by
  have := h ⟨y.toNat, y.toNat_lt⟩
  simpa only [UInt8.ofNat_toNat] using this
theorem in5_k : ∀ k : Fin 256, inF 5 (b2 (UInt8.ofNat k.val)) = false → plainB (UInt8.ofNat k.val) := by decide +kernel
theorem in4_k : ∀ k : Fin 256, inF 4 (b2 (UInt8.ofNat k.val)) = false → fineB (UInt8.ofNat k.val) := by decide +kernel
theorem in3_k : ∀ k : Fin 256, inF 3 (b2 (UInt8.ofNat k.val)) = false → 32 < b2 (UInt8.ofNat k.val) ∧ UInt8.ofNat k.val ≠ 35 := by decide +kernel
theorem in2_k : ∀ k : Fin 256, inF 2 (b2 (UInt8.ofNat k.val)) = false → 32 < b2 (UInt8.ofNat k.val) ∧ UInt8.ofNat k.val ≠ 35 := by decide +kernel
theorem in1_k : ∀ k : Fin 256, inF 1 (b2 (UInt8.ofNat k.val)) = false → 32 < b2 (UInt8.ofNat k.val) := by decide +kernel
theorem in0_k : ∀ k : Fin 256, inF 0 (b2 (UInt8.ofNat k.val)) = false → 32 ≤ b2 (UInt8.ofNat k.val) := by decide +kernel
theorem bad_k : ∀ k : Fin 256, badF (b2 (UInt8.ofNat k.val)) = false → UInt8.ofNat k.val ≠ 35 ∧ UInt8.ofNat k.val ≠ 63 ∧ UInt8.ofNat k.val ≠ 47 ∧ UInt8.ofNat k.val ≠ 92 ∧ UInt8.ofNat k.val ≠ 124 ∧ UInt8.ofNat k.val ≠ 58 := by decide +kernel
theorem dig_k : ∀ k : Fin 256, 48 ≤ b2 (UInt8.ofNat k.val) ∧ b2 (UInt8.ofNat k.val) ≤ 57 → plainB (UInt8.ofNat k.val) := by decide +kernel
theorem let_k : ∀ k : Fin 256, schC (b2 (UInt8.ofNat k.val)) = true → 32 < b2 (UInt8.ofNat k.val) := by decide +kernel
theorem in5_is {y : UInt8} (h : inF 5 (b2 y) = false) : plainB y := all_bytes (P := fun y => inF 5 (b2 y) = false → plainB y) in5_k y h
theorem in4_fine {y : UInt8} (h : inF 4 (b2 y) = false) : fineB y := all_bytes (P := fun y => inF 4 (b2 y) = false → fineB y) in4_k y h
theorem in3_is {y : UInt8} (h : inF 3 (b2 y) = false) : 32 < b2 y ∧ y ≠ 35 := all_bytes (P := fun y => inF 3 (b2 y) = false → 32 < b2 y ∧ y ≠ 35) in3_k y h
theorem in2_is {y : UInt8} (h : inF 2 (b2 y) = false) : 32 < b2 y ∧ y ≠ 35 := all_bytes (P := fun y => inF 2 (b2 y) = false → 32 < b2 y ∧ y ≠ 35) in2_k y h
theorem in1_is {y : UInt8} (h : inF 1 (b2 y) = false) : 32 < b2 y := all_bytes (P := fun y => inF 1 (b2 y) = false → 32 < b2 y) in1_k y h
theorem in0_is {y : UInt8} (h : inF 0 (b2 y) = false) : 32 ≤ b2 y := all_bytes (P := fun y => inF 0 (b2 y) = false → 32 ≤ b2 y) in0_k y h
theorem nobad_is {y : UInt8} (h : badF (b2 y) = false) : y ≠ 35 ∧ y ≠ 63 ∧ y ≠ 47 ∧ y ≠ 92 ∧ y ≠ 124 ∧ y ≠ 58 := all_bytes (P := fun y => badF (b2 y) = false → y ≠ 35 ∧ y ≠ 63 ∧ y ≠ 47 ∧ y ≠ 92 ∧ y ≠ 124 ∧ y ≠ 58) bad_k y h
theorem dig_is {y : UInt8} (h : 48 ≤ b2 y ∧ b2 y ≤ 57) : plainB y := all_bytes (P := fun y => 48 ≤ b2 y ∧ b2 y ≤ 57 → plainB y) dig_k y h
theorem schC_is {y : UInt8} (h : schC (b2 y) = true) : 32 < b2 y := all_bytes (P := fun y => schC (b2 y) = true → 32 < b2 y) let_k y h
theorem hexd_plain : ∀ k : Fin 16, plainB (hexd k.val) := by decide +kernel
theorem hex_plain (u : Nat) : ∀ y ∈ hexF u, plainB y := by
  induction u using Nat.strongRecOn with
  | ind u ih =>
    intro y hy
    by_cases h : u < 16
    · rw [hex_small h] at hy
      obtain rfl : y = hexd u := by simpa using hy
      exact hexd_plain ⟨u, h⟩
    · rw [hex_big h] at hy
      rcases List.mem_append.mp hy with hy | hy
      · exact ih (u / 16) (by omega) y hy
      · obtain rfl : y = hexd (u % 16) := by simpa using hy
        exact hexd_plain ⟨u % 16, by omega⟩
theorem six_plain (a : List Int) : ∀ y ∈ sixF a, plainB y := by
  intro y hy
  unfold sixF rendA at hy
  obtain ⟨t, _, hy⟩ := List.mem_flatMap.mp hy
  unfold rendT at hy
  split at hy
  · obtain rfl : y = 58 := by simpa using hy
    decide
  · split at hy
    · obtain rfl : y = 58 := by simpa using hy
      decide
    · exact hex_plain _ y hy
theorem host_plain {s : Bytes} {sp : Bool} {h : Hst} (e : hostP s sp = some h) : ∀ y ∈ hostF h, plainB y := by
  intro y hy
  by_cases hk : h.kind = 4
  · rw [hst_six h hk] at hy
    simp only [List.mem_append, List.mem_singleton] at hy
    rcases hy with (rfl | hy) | rfl
    · decide
    · exact six_plain _ y hy
    · decide
  · obtain ⟨h1, _, h3⟩ := (host_back e).2.1 hk y hy
    have := nobad_is h3
    exact ⟨⟨h1, this.1, this.2.1⟩, this.2.2.1, this.2.2.2.1⟩
theorem host_kind {s : Bytes} {sp : Bool} {h : Hst} (e : hostP s sp = some h) : h.kind ≠ 0 := by
  cases hkind e with
  | six a h8 ha hs => simp
  | name n e hs hd hn hb he => simp
  | four n e hs h => simp
  | empty e h => simp
  | opaq e hs h hb => simp
theorem hostsp_ne {s : Bytes} {h : Hst} (e : hostP s true = some h) : h.kind ≠ 1 := by
  intro hk
  have key : ∀ sp : Bool, HKind s sp h → sp = false := by
    intro sp hK
    cases hK with
    | six a h8 ha hs => simp at hk
    | name n e hs hd hn hb he => simp at hk
    | four n e hs h => simp at hk
    | empty _ _ => assumption
    | opaq e hs h hb => simp at hk
  cases key true (hkind e)
theorem port_plain {sch : Bytes} {a : Ath} (ok : AOk sch a) : ∀ y ∈ portT a, plainB y := by
  intro y hy
  unfold portT at hy
  split at hy
  · next hp =>
    rcases List.mem_cons.mp hy with rfl | hy
    · decide
    · rcases ok.q with ⟨q1, _⟩ | ⟨_, q2, _⟩
      · rw [q1] at hp; cases hp
      · have e : Lib.itoa a.port = Lib.decDigits a.port.toNat := by unfold Lib.itoa; rw [if_neg (by omega)]
        rw [e] at hy
        exact dig_is (dec_byte _ y hy)
  · cases hy
theorem wt_plain {sch : Bytes} {a : Ath} (ok : AOk sch a) : ∀ y ∈ wtF a, plainB y := by
  intro y hy
  obtain ⟨n, hh, _⟩ := ok.h
  obtain ⟨x, hx⟩ := ok.u
  obtain ⟨z, hz⟩ := ok.p
  have hu : ∀ y ∈ a.user, plainB y := fun y hy => by rw [hx] at hy; exact in5_is (pc5_in y hy)
  have hp : ∀ y ∈ a.pass, plainB y := fun y hy => by rw [hz] at hy; exact in5_is (pc5_in y hy)
  unfold wtF at hy
  rcases List.mem_append.mp hy with hy | hy
  · rcases List.mem_append.mp hy with hy | hy
    · unfold whoT at hy
      split at hy
      · cases hy
      · rcases List.mem_append.mp hy with hy | hy
        · rcases List.mem_append.mp hy with hy | hy
          · exact hu y hy
          · split at hy
            · cases hy
            · rcases List.mem_cons.mp hy with rfl | hy
              · decide
              · exact hp y hy
        · obtain rfl : y = 64 := by simpa using hy
          decide
    · exact host_plain hh y hy
  · exact port_plain ok y hy
theorem plain_sl {y : UInt8} (h : plainB y) (sp : Bool) : slP sp y = false := by
  unfold slP
  have h1 : (y == 47) = false := by simpa using h.2.1
  have h2 : (y == 92) = false := by simpa using h.2.2
  rw [h1, h2]
  cases sp <;> rfl
theorem path_fine {sp : Bool} : ∀ {l : List Bytes}, (∀ x ∈ l, Pce sp x) → ∀ y ∈ joinP l, fineB y
  | [], _, y, hy => by cases hy
  | p :: r, h, y, hy => by
    unfold joinP at hy
    rcases List.mem_append.mp hy with hy | hy
    · rcases List.mem_append.mp hy with hy | hy
      · obtain rfl : y = 47 := by simpa using hy
        decide
      · have e := (h p (by simp)).e
        rw [← e] at hy
        exact in4_fine (enc_in enc4 y hy).1
    · exact path_fine (fun x hx => h x (by simp [hx])) y hy
theorem url_eq {a b : Url} (h1 : a.sch = b.sch) (h2 : a.usr = b.usr) (h3 : a.pas = b.pas) (h4 : a.host = b.host) (h5 : a.hasPort = b.hasPort) (h6 : a.port = b.port) (h7 : a.opq = b.opq) (h8 : a.flat = b.flat) (h9 : a.path = b.path) (h10 : a.hasQ = b.hasQ) (h11 : a.q = b.q) (h12 : a.hasF = b.hasF) (h13 : a.f = b.f) : a = b := by
  cases a; cases b; simp_all
/-- what stands behind the scheme -/
def restT (u : Url) : Bytes := aheadF u ++ pathF u
theorem ahead_wt {u : Url} (hk : u.host.kind ≠ 0) : aheadF u = 47 :: 47 :: wtF (athOf u) := by
  have h := ser_wt (a := athOf u) hk
  unfold serF at h
  have e1 : pathF (uOf (athOf u)) = [] := rfl
  have e2 : qF (uOf (athOf u)) = [] := rfl
  have e3 : frF (uOf (athOf u)) false = [] := rfl
  rw [e1, e2, e3] at h
  have e4 : aheadF (uOf (athOf u)) = aheadF u := by
    unfold aheadF
    rw [if_neg (show ¬ (uOf (athOf u)).host.kind = 0 from hk), if_neg hk]
    rfl
  rw [e4] at h
  have h2 : [] ++ [58] ++ aheadF u ++ [] ++ [] ++ [] = 58 :: 47 :: 47 :: wtF (athOf u) := h
  simp only [List.nil_append, List.append_nil, List.singleton_append] at h2
  injection h2
theorem ser_split (u : Url) : serF u true = u.sch ++ [58] ++ restT u ++ (if u.hasQ = true then 63 :: u.q else []) ++ (if u.hasF = true then 35 :: u.f else []) := by
  unfold serF restT qF frF
  rw [Bool.and_true, List.append_assoc (u.sch ++ [58]) (aheadF u) (pathF u)]
  rfl
theorem no_of {l : Bytes} (h : ∀ y ∈ l, fineB y) : (35 : UInt8) ∉ l ∧ (63 : UInt8) ∉ l := ⟨fun hm => (h _ hm).2.1 rfl, fun hm => (h _ hm).2.2 rfl⟩
theorem rest_fine {u : Url} (g : Good u) (ho : u.opq = false) : ∀ y ∈ restT u, fineB y := by
  have hp : pathF u = joinP u.path := by unfold pathF; rw [ho]; rfl
  have hpf : ∀ y ∈ pathF u, fineB y := by rw [hp]; exact path_fine g.pc
  have key : ∀ {sch : Bytes}, AOk sch (athOf u) → ∀ y ∈ restT u, fineB y := by
    intro sch ha y hy
    obtain ⟨n, hh, _⟩ := ha.h
    unfold restT at hy
    rw [ahead_wt (u := u) (host_kind hh)] at hy
    rcases List.mem_append.mp hy with hy | hy
    · rcases List.mem_cons.mp hy with rfl | hy
      · decide
      · rcases List.mem_cons.mp hy with rfl | hy
        · decide
        · exact (wt_plain ha y hy).1
    · exact hpf y hy
  cases g.body with
  | opq h1 => rw [ho] at h1; cases h1
  | none h1 h2 h3 h5 hq =>
    intro y hy
    unfold restT at hy
    rcases List.mem_append.mp hy with hy | hy
    · have e : aheadF u = dotF u := by unfold aheadF; rw [if_pos (by rw [h3]; rfl)]
      rw [e] at hy
      unfold dotF at hy
      split at hy
      · simp only [List.mem_cons, List.not_mem_nil, or_false] at hy
        rcases hy with rfl | rfl <;> decide
      · cases hy
    · exact hpf y hy
  | asked h1 hs ha hq => exact key ha
  | file h1 hs h3 h5 hq =>
    intro y hy
    have hk : u.host.kind ≠ 0 := by
      rcases h3 with h3 | ⟨n, _, h3, _⟩
      · rw [h3]; simp
      · exact host_kind h3
    unfold restT at hy
    rw [ahead_wt hk] at hy
    have hw : wtF (athOf u) = hostF u.host := by
      unfold wtF whoT portT
      show (if u.usr = [] ∧ u.pas = [] then _ else _) ++ _ ++ (if u.hasPort = true then _ else _) = _
      rw [if_pos ⟨h5.u, h5.p⟩, if_neg (by rw [h5.h]; simp)]
      simp [athOf]
    rw [hw] at hy
    rcases List.mem_append.mp hy with hy | hy
    · rcases List.mem_cons.mp hy with rfl | hy
      · decide
      · rcases List.mem_cons.mp hy with rfl | hy
        · decide
        · rcases h3 with h3 | ⟨n, _, h3, _⟩
          · rw [h3] at hy
            cases hy
          · exact (host_plain h3 y hy).1
    · exact hpf y hy
/-- the parts of what is written -/
theorem split_ser {u : Url} (g : Good u) : splitF (cleanF (serF u true)) = ⟨true, u.sch, restT u, u.hasQ, u.q, u.hasF, u.f⟩ := by
  have hq : ∀ y ∈ u.q, 32 < b2 y ∧ y ≠ 35 := by
    intro y hy
    have e := g.qe
    rw [← e] at hy
    unfold setQ at hy
    split at hy
    · exact in3_is (enc_in enc3 y hy).1
    · exact in2_is (enc_in enc2 y hy).1
  have hf : ∀ y ∈ u.f, 32 < b2 y := by
    intro y hy
    have e := g.fe
    rw [← e] at hy
    exact in1_is (enc_in enc1 y hy).1
  have hr : ((35 : UInt8) ∉ restT u ∧ (63 : UInt8) ∉ restT u) ∧ (∀ y ∈ restT u, 32 ≤ b2 y) ∧ ∀ y, (restT u).getLast? = some y → ¬ b2 y ≤ 32 := by
    cases ho : u.opq with
    | false =>
      have := rest_fine g ho
      refine ⟨no_of this, fun y hy => by have := (this y hy).1; omega, fun y hy => ?_⟩
      have := (this y (List.mem_of_getLast? hy)).1
      omega
    | true =>
      cases g.body with
      | none h1 => rw [ho] at h1; cases h1
      | file h1 => rw [ho] at h1; cases h1
      | asked h1 => rw [ho] at h1; cases h1
      | opq h1 h2 h3 h4 h5 h7 h8 h9 h10 =>
        have e : restT u = u.flat := by
          unfold restT aheadF dotF pathF
          rw [if_pos (by rw [h3]; rfl), if_neg (by rw [ho]; simp), ho]
          rfl
        rw [e]
        refine ⟨h10, fun y hy => ?_, fun y hy h32 => ?_⟩
        · rw [← h7] at hy
          exact in0_is (pc0_mem hy).1
        · have hm := List.mem_of_getLast? hy
          rw [← h7] at hm
          have := in0_is (pc0_mem hm).1
          have e2 : b2 y = 32 := by omega
          have : y = 32 := by
            have := all_bytes (P := fun y => b2 y = 32 → y = 32) (by decide +kernel) y e2
            exact this
          rw [this] at hy
          exact h9 hy
  have hs : ∀ y ∈ u.sch, 32 < b2 y := fun y hy => schC_is (sch_all g.sch.1 y hy)
  have hne : u.sch ≠ [] := fun e => by have := g.sch.1; rw [e] at this; cases this
  have e58 : b2 58 = 58 := by decide
  have e63 : b2 63 = 63 := by decide
  have e35 : b2 35 = 35 := by decide
  rw [ser_split, clean_same]
  · exact split_of g.sch hr.1 (fun hm => (hq _ hm).2 rfl) g.q g.f
  · intro y hy
    simp only [List.mem_append, List.mem_singleton] at hy
    rcases hy with (((hy | rfl) | hy) | hy) | hy
    · have := hs y hy; omega
    · omega
    · exact hr.2.1 y hy
    · split at hy
      · rcases List.mem_cons.mp hy with rfl | hy
        · omega
        · have := (hq y hy).1; omega
      · cases hy
    · split at hy
      · rcases List.mem_cons.mp hy with rfl | hy
        · omega
        · have := hf y hy; omega
      · cases hy
  · intro y hy
    cases hsc : u.sch with
    | nil => exact absurd hsc hne
    | cons c t =>
      rw [hsc] at hy
      simp only [List.cons_append, List.head?_cons, Option.some.injEq] at hy
      have := hs c (by rw [hsc]; simp)
      rw [← hy]
      omega
  · intro y hy
    rw [List.getLast?_append] at hy
    have key : ∀ (b : Bool) (c : UInt8) (l : Bytes), 32 < b2 c → (∀ y ∈ l, 32 < b2 y) → ∀ z, (if b = true then c :: l else []).getLast? = some z → ¬ b2 z ≤ 32 := by
      intro b c l hc hl z hz
      split at hz
      · rcases List.mem_cons.mp (List.mem_of_getLast? hz) with rfl | hm
        · omega
        · have := hl z hm; omega
      · cases hz
    cases hL : (if u.hasF = true then 35 :: u.f else []).getLast? with
    | some z =>
      rw [hL] at hy
      simp only [Option.some_or, Option.some.injEq] at hy
      rw [← hy]
      exact key _ _ _ (by omega) hf z hL
    | none =>
      rw [hL, Option.none_or, List.getLast?_append] at hy
      cases hM : (if u.hasQ = true then 63 :: u.q else []).getLast? with
      | some z =>
        rw [hM] at hy
        simp only [Option.some_or, Option.some.injEq] at hy
        rw [← hy]
        exact key _ _ _ (by omega) (fun y hy => (hq y hy).1) z hM
      | none =>
        rw [hM, Option.none_or, List.getLast?_append] at hy
        cases hN : (restT u).getLast? with
        | some z =>
          rw [hN] at hy
          simp only [Option.some_or, Option.some.injEq] at hy
          rw [← hy]
          exact hr.2.2 z hN
        | none =>
          rw [hN, Option.none_or, List.getLast?_append] at hy
          simp only [List.getLast?_singleton, Option.some_or, Option.some.injEq] at hy
          rw [← hy]
          omega
/-- the query and the fragment again -/
theorem start_back {u : Url} (g : Good u) (rest : Bytes) : startF u.sch ⟨true, u.sch, rest, u.hasQ, u.q, u.hasF, u.f⟩ = { U0 with sch := u.sch, hasQ := u.hasQ, q := u.q, hasF := u.hasF, f := u.f } := by
  unfold startF
  have h1 := g.qe
  have h2 := g.fe
  unfold setQ at h1
  dsimp only
  rw [h1, h2]
theorem ask_back {u u0 : Url} (g : Good u) (ho : u.opq = false) (ha : AOk u.sch (athOf u)) (hp : spF u.sch = true → u.path ≠ []) (e0 : u0 = { U0 with sch := u.sch, hasQ := u.hasQ, q := u.q, hasF := u.hasF, f := u.f }) :
    askF u0 (wtF (athOf u) ++ joinP u.path) = some u := by
  unfold askF
  have es : u0.sch = u.sch := by rw [e0]
  rw [es, acut_of (fun y hy => plain_sl (wt_plain ha y hy) _) (joinP_head u.path)]
  dsimp only
  rw [auth_back_ok ha]
  dsimp only
  have hpt : (if spF u.sch = true ∨ joinP u.path ≠ [] then pathF' u.sch (joinP u.path) else u0.path) = u.path := by
    by_cases hn : u.path = []
    · have hs : spF u.sch = false := by
        cases h : spF u.sch with
        | false => rfl
        | true => exact absurd hn (hp h)
      rw [if_neg (by rw [hs, hn]; simp [joinP]), e0, hn]
      rfl
    · rw [if_pos (.inr fun e => hn (joinP_nil.mp e)), pathF_back g.pc g.fi hn]
  rw [hpt, e0]
  congr 1
  exact url_eq rfl rfl rfl rfl rfl rfl ho.symm (g.fl ho).symm rfl rfl rfl rfl rfl
theorem sl_two {sp : Bool} {t : Bytes} (h : ∀ y, t.head? = some y → slP sp y = false) : slN sp (47 :: 47 :: t) = 2 := by
  unfold slN
  rw [List.takeWhile_cons_of_pos (slP_47 sp), List.takeWhile_cons_of_pos (slP_47 sp)]
  cases t with
  | nil => rfl
  | cons c r =>
    rw [List.takeWhile_cons_of_neg (by rw [h c rfl]; simp)]
    rfl
theorem sl_ge {sp : Bool} {t : Bytes} : 2 ≤ slN sp (47 :: 47 :: t) := by
  unfold slN
  rw [List.takeWhile_cons_of_pos (slP_47 sp), List.takeWhile_cons_of_pos (slP_47 sp)]
  simp
/-- what was read is read again as it is written, against whatever base -/
theorem readJ_back {u : Url} (g : Good u) (b : Url) : joinU b (splitF (cleanF (serF u true))) = some u := by
  rw [split_ser g]
  have hst := start_back g (restT u)
  generalize hP : (⟨true, u.sch, restT u, u.hasQ, u.q, u.hasF, u.f⟩ : Prt) = p at *
  have p1 : p.hasS = true := by rw [← hP]
  have p2 : p.sch = u.sch := by rw [← hP]
  have p3 : p.rest = restT u := by rw [← hP]
  have p4 : p.hasQ = u.hasQ := by rw [← hP]
  have p5 : p.hasF = u.hasF := by rw [← hP]
  unfold joinU
  have hpo : u.opq = false → pathF u = joinP u.path := fun h => by unfold pathF; rw [h]; rfl
  cases g.body with
  | file h1 hs h3 h5 hq =>
    rw [if_pos (.inl ⟨p1, by rw [p2]; exact hs⟩)]
    have hk : u.host.kind ≠ 0 := by
      rcases h3 with h3 | ⟨n, _, h3, _⟩
      · rw [h3]; simp
      · exact host_kind h3
    have hw : wtF (athOf u) = hostF u.host := by
      unfold wtF whoT portT
      show (if u.usr = [] ∧ u.pas = [] then _ else _) ++ _ ++ (if u.hasPort = true then _ else _) = _
      rw [if_pos ⟨h5.u, h5.p⟩, if_neg (by rw [h5.h]; simp)]
      simp [athOf]
    have hr : p.rest = 47 :: 47 :: (hostF u.host ++ joinP u.path) := by
      rw [p3]
      unfold restT
      rw [ahead_wt hk, hw, hpo h1]
      rfl
    unfold fileU
    dsimp only
    rw [← hs, hst, hr, if_pos sl_ge]
    show namedU _ (hostF u.host ++ joinP u.path) = some u
    have hpl : ∀ y ∈ hostF u.host, plainB y := by
      rcases h3 with h3 | ⟨n, _, h3, _⟩
      · rw [h3]; intro y hy; cases hy
      · exact host_plain h3
    unfold namedU
    rw [acut_of (fun y hy => plain_sl (hpl y hy) _) (joinP_head u.path)]
    dsimp only
    have hpb := pathF_back g.pc g.fi hq
    have hdr : driveF (hostF u.host) = false := by
      rcases h3 with h3 | ⟨n, _, h3, _⟩
      · rw [h3]; rfl
      · cases hd : driveF (hostF u.host) with
        | false => rfl
        | true =>
          exfalso
          cases hh : hostF u.host with
          | nil => rw [hh] at hd; cases hd
          | cons x r =>
            cases r with
            | nil => rw [hh] at hd; cases hd
            | cons y r2 =>
              cases r2 with
              | cons z r3 => rw [hh] at hd; cases hd
              | nil =>
                rw [hh] at hd
                unfold driveF at hd
                rw [Bool.and_eq_true] at hd
                by_cases hk4 : u.host.kind = 4
                · rw [hst_six _ hk4] at hh
                  have : x = 91 := by
                    simp only [List.singleton_append, List.cons_append] at hh
                    injection hh with hh _
                    exact hh.symm
                  rw [this] at hd
                  revert hd; intro hd; exact absurd hd.1 (by decide)
                · have hb := nobad_is ((host_back h3).2.1 hk4 y (by rw [hh]; simp)).2.2
                  have := hd.2
                  simp only [Bool.or_eq_true, beq_iff_eq] at this
                  rcases this with e | e
                  · exact hb.2.2.2.2.2 e
                  · exact hb.2.2.2.2.1 e
    rw [if_neg (by rw [hdr]; simp)]
    rcases h3 with h3 | ⟨n, hn, h3, hl⟩
    · rw [if_pos (by rw [h3]; rfl), hpb]
      congr 1
      exact url_eq rfl h5.u.symm h5.p.symm h3.symm h5.h.symm h5.n.symm h1.symm (g.fl h1).symm rfl rfl rfl rfl rfl
    · have hne : hostF u.host ≠ [] := fun e => hostsp_ne h3 ((host_back h3).2.2.mp e)
      rw [if_neg hne, (host_back h3).1]
      dsimp only
      rw [if_neg (show ¬ (u.host.kind = 2 ∧ u.host.name = [108, 111, 99, 97, 108, 104, 111, 115, 116]) from hl), hpb]
      congr 1
      exact url_eq rfl h5.u.symm h5.p.symm rfl h5.h.symm h5.n.symm h1.symm (g.fl h1).symm rfl rfl rfl rfl rfl
  | opq h1 h2 h3 h4 h5 h7 h8 h9 h10 =>
    have hnf : u.sch ≠ fileB := fun e => by rw [e, fileB_sp] at h2; cases h2
    rw [if_neg (by rw [p1, p2]; simp [hnf]), if_neg (by rw [p2, h2]; simp), if_pos ⟨p1, by rw [p2, h2]; simp⟩]
    have e : restT u = u.flat := by
      unfold restT aheadF dotF pathF
      rw [if_pos (by rw [h3]; rfl), if_neg (by rw [h1]; simp), h1]
      rfl
    unfold otherU
    rw [p2, hst, p3, e]
    split
    · next r hr => rw [hr] at h8; exact absurd rfl h8
    · next r _ hr => rw [hr] at h8; exact absurd rfl h8
    · dsimp only
      rw [h7, if_neg (fun h => h9 h.2)]
      congr 1
      exact url_eq rfl h5.u.symm h5.p.symm h3.symm h5.h.symm h5.n.symm h1.symm rfl h4.symm rfl rfl rfl rfl
  | none h1 h2 h3 h5 hq =>
    have hnf : u.sch ≠ fileB := fun e => by rw [e, fileB_sp] at h2; cases h2
    rw [if_neg (by rw [p1, p2]; simp [hnf]), if_neg (by rw [p2, h2]; simp), if_pos ⟨p1, by rw [p2, h2]; simp⟩]
    unfold otherU
    have hah : aheadF u = dotF u := by unfold aheadF; rw [if_pos (by rw [h3]; rfl)]
    obtain ⟨x, l, hl⟩ : ∃ x l, u.path = x :: l := by
      cases hp : u.path with
      | nil => exact absurd hp hq
      | cons x l => exact ⟨x, l, rfl⟩
    have hpc := g.pc
    rw [hl] at hpc
    have hseg : segP u.sch [] (x ++ joinP l) = x :: l := segP_back hpc (fun h3 => absurd h3 hnf)
    have hfin : ∀ P : List Bytes, P = u.path → some { ({ U0 with sch := u.sch, hasQ := u.hasQ, q := u.q, hasF := u.hasF, f := u.f } : Url) with path := P } = some u := by
      rintro P rfl
      congr 1
      exact url_eq rfl h5.u.symm h5.p.symm h3.symm h5.h.symm h5.n.symm h1.symm (g.fl h1).symm rfl rfl rfl rfl rfl
    by_cases hd : u.opq = false ∧ 2 ≤ u.path.length ∧ u.path.head? = some []
    · have hr : p.rest = 47 :: 46 :: joinP u.path := by
        rw [p3]
        unfold restT
        rw [hah, hpo h1]
        unfold dotF
        rw [if_pos hd]
        rfl
      rw [p2, hst, hr]
      show some _ = some u
      refine hfin _ ?_
      have e1 : segs (spF u.sch) (46 :: joinP u.path) = [46] :: u.path := by
        have := segs_app (sp := spF u.sch) (p := [46]) (fun y hy => by rw [List.mem_singleton.mp hy, h2]; rfl) (x ++ joinP l)
        have e2 : segs (spF u.sch) (x ++ joinP l) = x :: l := segs_join x l (fun q hq y hy => (hpc q hq).s y hy)
        rw [hl]
        show segs (spF u.sch) ([46] ++ (47 :: (x ++ joinP l))) = _
        rw [this, e2]
      unfold segP
      rw [e1, hl]
      show segGo u.sch (segS u.sch [] [46] false) (x :: l) = x :: l
      have e3 : segS u.sch [] [46] false = [] := by
        unfold segS
        rw [if_neg (by decide), if_pos (by decide)]
        rfl
      rw [e3]
      have := segGo_same (sch := u.sch) (x :: l) [] hpc (fun _ _ h3 => absurd h3 hnf)
      rw [this, List.nil_append]
    · have hr : p.rest = 47 :: (x ++ joinP l) := by
        rw [p3]
        unfold restT
        rw [hah, hpo h1]
        unfold dotF
        rw [if_neg hd, hl]
        rfl
      have hx : ∀ r, x ++ joinP l ≠ 47 :: r := by
        intro r e
        cases x with
        | nil =>
          cases l with
          | nil => cases e
          | cons y l2 => exact hd ⟨h1, by rw [hl]; simp, by rw [hl]; rfl⟩
        | cons c t =>
          injection e with e _
          have := (hpc (c :: t) (by simp)).s c (by simp)
          rw [e, slP_47] at this
          cases this
      rw [p2, hst, hr]
      split
      · next r e =>
        injection e with _ e
        exact absurd e (hx r)
      · next r _ e =>
        injection e with _ e
        rw [← e]
        refine hfin _ ?_
        rw [hl]
        exact hseg
      · next _ n2 => exact absurd rfl (n2 _)
  | asked h1 hs ha hp =>
    obtain ⟨n, hh, _⟩ := ha.h
    have hk : u.host.kind ≠ 0 := host_kind hh
    have hr : p.rest = 47 :: 47 :: (wtF (athOf u) ++ joinP u.path) := by
      rw [p3]
      unfold restT
      rw [ahead_wt hk, hpo h1]
      rfl
    rw [if_neg (by rw [p1, p2]; simp [hs])]
    have hak := ask_back g h1 ha hp rfl
    cases hsp : spF u.sch with
    | true =>
      rw [if_pos ⟨⟨p1, by rw [p2]; exact hsp⟩, .inr (by rw [hr]; rfl)⟩, p2, hst, hsp, hr]
      have hsl : slN true (47 :: 47 :: (wtF (athOf u) ++ joinP u.path)) = 2 := by
        refine sl_two fun y hy => ?_
        have hw : wtF (athOf u) ≠ [] := by
          intro e
          unfold wtF at e
          have e1 := (List.append_eq_nil_iff.mp (List.append_eq_nil_iff.mp e).1).2
          rw [hsp] at hh
          exact hostsp_ne hh ((host_back hh).2.2.mp e1)
        cases hc : wtF (athOf u) with
        | nil => exact absurd hc hw
        | cons c t =>
          rw [hc] at hy
          injection hy with hy
          rw [← hy]
          exact plain_sl (wt_plain ha c (by rw [hc]; simp)) _
      rw [hsl]
      exact hak
    | false =>
      rw [if_neg (by rw [p2, hsp]; simp), if_pos ⟨p1, by rw [p2, hsp]; simp⟩]
      unfold otherU
      rw [p2, hst, hr]
      exact hak
theorem readU_back {u : Url} (g : Good u) : readU (serF u true) = some u := by
  unfold readU
  have h := split_ser g
  have e : (splitF (cleanF (serF u true))).hasS = true := by rw [h]
  rw [if_pos e]
  exact readJ_back g U0
/-- ParseApart -/
theorem read_apart {s t : Bytes} {u v : Url} (h1 : readU s = some u) (h2 : readU t = some v) : serF u true = serF v true ↔ u = v := by
  refine ⟨fun e => ?_, fun e => by rw [e]⟩
  have e1 := readU_back (readU_good h1)
  have e2 := readU_back (readU_good h2)
  rw [e, e2] at e1
  injection e1 with e1
  exact e1.symm
end Go.Proofs.YtjgenpooedkfmaaGreatDoor

/- Who is asked, written and read again: lengths and parts (plain). -/
namespace Go.Proofs.YtjgenpooedkfmaaGreatDoor
open Go.RowKit
set_option maxRecDepth 10000

theorem st_ulen {l s u p : Bytes} (h : stF l = some (s, u, p)) : u.length ≤ 3 * l.length ∧ p.length ≤ 3 * l.length := by
  unfold stF at h
  cases ha : atF l with
  | none =>
    rw [ha] at h
    injection h with h
    injection h with h1 h2
    injection h2 with h2 h3
    rw [← h2, ← h3]
    simp
  | some v =>
    obtain ⟨who, rest⟩ := v
    rw [ha] at h
    dsimp only at h
    split at h
    · cases h
    · injection h with h
      injection h with h1 h2
      injection h2 with h2 h3
      have hw : who.length ≤ l.length := by
        rw [(at_is ha).1]
        simp
      have hc := congrArg List.length (cut1_is 58 who)
      have hq : (cut1 58 who).2.2 = false → (cut1 58 who).2.1 = [] := cut1_flag 58 _
      rw [List.length_append] at hc
      have k1 : (cutF who).1.length ≤ who.length ∧ (cutF who).2.length ≤ who.length := by
        rw [cutF1]
        dsimp only
        by_cases hf : (cut1 58 who).2.2 = true
        · rw [if_pos hf, List.length_cons] at hc
          omega
        · rw [hq (by simpa using hf)]
          simp only [List.length_nil]
          omega
      have k2 := pcB_len 5 (cutF who).1
      have k3 := pcB_len 5 (cutF who).2
      rw [← h2, ← h3]
      omega
/-- what was read of a text: how long it may be -/
theorem auth_len {sch s : Bytes} {a : Ath} (h : authF sch s = some a) : a.user.length ≤ 3 * s.length ∧ a.pass.length ≤ 3 * s.length ∧ ∃ n, n.length ≤ s.length ∧ hostP n (spF sch) = some a.host := by
  rw [auth_st] at h
  cases hs : stF s with
  | none => rw [hs] at h; cases h
  | some v =>
    obtain ⟨s2, u, p⟩ := v
    rw [hs] at h
    dsimp only at h
    rw [rest_nq] at h
    have hl := st_len hs
    have hu := st_ulen hs
    cases hn : nqF s2 with
    | none => rw [hn] at h; cases h
    | some v =>
      obtain ⟨n, q⟩ := v
      rw [hn] at h
      dsimp only at h
      have hnl := nq_len hn
      unfold finF at h
      cases hh : hostP n (spF sch) with
      | none => rw [hh] at h; cases h
      | some g =>
        rw [hh] at h
        dsimp only at h
        cases hq : apF sch q with
        | none => rw [hq] at h; cases h
        | some v =>
          obtain ⟨k, b⟩ := v
          rw [hq] at h
          injection h with h
          subst h
          exact ⟨hu.1, hu.2, n, by omega, hh⟩
end Go.Proofs.YtjgenpooedkfmaaGreatDoor
