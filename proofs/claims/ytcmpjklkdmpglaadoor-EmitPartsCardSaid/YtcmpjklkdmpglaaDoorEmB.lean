/- A builder of the call's own above a world that stands, a boxed argument; who is asked, and paths, both ways. -/
import Derived.Test.YtcmpjklkdmpglaaDoorEmA
import Derived.Test.YtcmpjklkdmpglaaDoorBld
import Derived.Test.YtcmpjklkdmpglaaDoorBldB
namespace Go.Proofs.YtcmpjklkdmpglaaDoor
open Go.RowKit
set_option maxRecDepth 10000

/-- the builder that was laid upon the world wb holds l; what was there stands -/
structure Hb (wb : World) (l : Bytes) (w : World) : Prop where
  bld : ∃ g, Bld wb.heap.size g l w ∧ ∀ k, g = some k → wb.heap.size ≤ k
  bel : Below wb.heap.size wb w
theorem Hb.fresh (wb : World) : Hb wb [] (wb.alloc (.cells #[.pointer none, .slice none 0 0] 52)) :=
  ⟨⟨none, Bld.fresh wb, fun _ h => by cases h⟩, (Below.refl _ _).alloc (Nat.le_refl _) _⟩
theorem Hb.step {wb w w' : World} {l : Bytes} (h : Hb wb l w) (hb : Below w.heap.size w w') : Hb wb l w' := by
  obtain ⟨g, h1, h2⟩ := h.bld
  exact ⟨⟨g, h1.below hb, h2⟩, h.bel.trans (hb.mono h.bel.size)⟩
theorem Hb.of_ret {wb w w' : World} {l' : Bytes} {g : Option Nat} (hg : ∀ k, g = some k → wb.heap.size ≤ k) (hb : Below wb.heap.size wb w) (h : RetB w wb.heap.size g l' w') : Hb wb l' w' := by
  obtain ⟨g', a1, a2, a3⟩ := h
  refine ⟨⟨g', a1, fun k hk => ?_⟩, hb.trans (a3.below hb.size ?_)⟩
  · rcases a2 with h | ⟨k', h, h'⟩
    · exact hg k (h ▸ hk)
    · rw [h] at hk; injection hk with hk; have := hb.size; omega
  · rintro k (h | h)
    · omega
    · exact hg k h
theorem Hb.ws {wb w : World} {l : Bytes} (m : Bytes) (h : Hb wb l w) (hlen : l.length + m.length ≤ 1099511627776) :
    Calls Tryd.prog 23 #[.pointer (some ⟨wb.heap.size, 0, none⟩), S m] w fun e w' => e = .returned (.tuple #[.int .i64 m.length, .nilIface]) ∧ Hb wb (l ++ m) w' := by
  obtain ⟨g, h1, h2⟩ := h.bld
  refine (writeString_any m h1 hlen).mono ?_
  rintro e w' ⟨rfl, hr⟩
  exact ⟨rfl, Hb.of_ret h2 h.bel hr⟩
theorem Hb.wb1 {wb w : World} {l : Bytes} (m : UInt8) (n : Int) (hn : n = b2 m) (h : Hb wb l w) (hlen : l.length + 1 ≤ 1099511627776) :
    Calls Tryd.prog 24 #[.pointer (some ⟨wb.heap.size, 0, none⟩), .int .u8 n] w fun e w' => e = .returned .nilIface ∧ Hb wb (l ++ [m]) w' := by
  subst hn
  obtain ⟨g, h1, h2⟩ := h.bld
  refine (writeByte_any m h1 hlen).mono ?_
  rintro e w' ⟨rfl, hr⟩
  exact ⟨rfl, Hb.of_ret h2 h.bel hr⟩
theorem Hb.str {wb w : World} {l : Bytes} (h : Hb wb l w) :
    Calls Tryd.prog 29 #[.pointer (some ⟨wb.heap.size, 0, none⟩)] w fun e w' => e = .returned (S l) ∧ Below wb.heap.size wb w' := by
  obtain ⟨g, h1, h2⟩ := h.bld
  refine (bstring_any wb.heap.size h1 (Nat.le_refl _) h2).mono ?_
  rintro e w' ⟨rfl, hr⟩
  exact ⟨rfl, h.bel.trans hr⟩

/-- an argument that is boxed: the world behind it has a name -/
theorem boxed {P : Program} {ops : Array Oper} {rest : List Oper} {o : Oper} {a : Act} {w : World} {Q : Exit → Act → World → Prop} (hg : o.guard = none) (t : TypeId) (x : Operand) (ho : o.op = .box t x)
    (cs : Array Value) (hx : a.eval x = .agg cs)
    (h : ∀ bx w', w.heap.size ≤ bx → bx < w'.heap.size → w'.heap[bx]? = some (.cells cs t (0, 0)) → (∀ i, w'.cell? ⟨bx, i, none⟩ = cs[i]?) → Below w.heap.size w w' → wpList P ops Q rest (a.put o.dst (.pointer (some ⟨bx, 0, none⟩))) w') : wpList P ops Q (o :: rest) a w := by
  refine Go.Great.wpList_boxTo hg t x ho _ rfl _ rfl cs (by rw [hx]; rfl) ?_
  refine h w.heap.size _ (Nat.le_refl _) (by simp) (heap_alloc_new w _) (fun i => ?_) ((Below.refl _ _).alloc (Nat.le_refl _) _)
  rw [World.cell?_alloc_mark]

theorem strs_at {B : Nat} {w : World} {av : Option Addr} {n c : Nat} {l : List Bytes} (h : Sl B w (.slice av n c) (l.map S)) (k : Nat) (hk : k < l.length) :
    ∃ b o, av = some ⟨b, o, none⟩ ∧ b < B ∧ w.cell? ⟨b, o + k, none⟩ = some (S l[k]) := by
  obtain ⟨c', _, _, h⟩ := h
  rcases h with ⟨hn, _⟩ | ⟨b, o, hb, hv, ha⟩
  · have : l = [] := by simpa using hn
    subst this; simp at hk
  · injection hv with h1 h2 h3
    refine ⟨b, o, h1, hb, ?_⟩
    have := ha k (by simpa using hk)
    simpa using this

/-- who is asked -/
def whoF (u : Url) : Bytes := if u.usr = [] ∧ u.pas = [] then [] else if u.pas = [] then u.usr ++ [64] else u.usr ++ [58] ++ u.pas ++ [64]
/-- a path's text -/
def joinP : List Bytes → Bytes
  | [] => []
  | p :: r => [47] ++ p ++ joinP r
theorem joinP_app : ∀ (l m : List Bytes), joinP (l ++ m) = joinP l ++ joinP m
  | [], m => rfl
  | p :: l, m => by simp [joinP, joinP_app l m]
theorem joinP_snoc (l : List Bytes) (p : Bytes) : joinP (l ++ [p]) = joinP l ++ [47] ++ p := by simp [joinP_app, joinP]
def pathF (u : Url) : Bytes := if u.opq then u.flat else joinP u.path

/-- texts that are not too long -/
structure UrlFew (u : Url) : Prop where
  path : u.path.length ≤ 50
  tot : (u.path.map List.length).sum ≤ 2000
  sch : u.sch.length ≤ 100
  usr : u.usr.length ≤ 500
  pas : u.pas.length ≤ 500
  flat : u.flat.length ≤ 1000
  q : u.q.length ≤ 1000
  f : u.f.length ≤ 1000
  name : u.host.name.length ≤ 500
theorem joinP_len : ∀ l : List Bytes, (joinP l).length = l.length + (l.map List.length).sum
  | [] => rfl
  | p :: r => by simp [joinP, joinP_len r]; omega
theorem take_sum : ∀ (k : Nat) (l : List Nat), (l.take k).sum ≤ l.sum
  | 0, l => by simp
  | k + 1, [] => by simp
  | k + 1, x :: l => by have := take_sum k l; simp; omega

theorem ls_app (a b : ByteArray) : ls (a ++ b) = ls a ++ ls b := by
  have h := bs_app (ls a) (ls b)
  rw [bs_ls, bs_ls] at h
  rw [h, ls_bs]
theorem ls_mk (a : Array UInt8) : ls ⟨a⟩ = a.toList := rfl
theorem who_any (u : Url) (cs : Array Value) (pv : Value) (w : World) (h : UrlAt cs pv u) (f1 : u.usr.length ≤ 100000) (f2 : u.pas.length ≤ 100000) :
    Calls Tryd.prog 25 #[.agg cs] w fun e w' => e = .returned (S (whoF u)) ∧ Below w.heap.size w w' := by
  have h1 := h.usr
  have h2 := h.pas
  clear h
  obtain ⟨R, hR⟩ : ∃ R, R = whoF u := ⟨_, rfl⟩
  rw [← hR]
  unfold whoF at hR
  generalize u.usr = x at h1 f1 hR
  generalize u.pas = y at h2 f2 hR
  have HR := Lib.hid hR; clear hR
  go_enter Tryd.func25, Tryd.ntmps25
  go_wp2_with (first | (refine boxed rfl _ _ rfl cs rfl ?_; intro bx w1 hb1 hb2 hb3 hb4 hb5; have c1 := (hb4 1).trans h1; have c2 := (hb4 2).trans h2; clear hb4 hb3))
  all_goals
    go_ret
    refine ⟨ret1_S ?_, hb5⟩
    rw [HR.out]
    simp_all [toList_bs, ls_app, ls_mk]
end Go.Proofs.YtcmpjklkdmpglaaDoor
