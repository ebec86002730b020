/- The tables of strconv and math/bits, as the rows list them: what the walks ask, and a world for the witness. -/
import Derived.Test.YtcmpjklkdmpglaaDoorCards
import Derived.Test.YtcmpjklkdmpglaaDoorTie
import Derived.Test.YtcmpjklkdmpglaaDoorNumB
import Derived.Lib.LaidIn
import Derived.Lib.LaidU8T
import Derived.Lib.TrailingZeros
import Derived.Deep.DeepHandedRow
import Derived.PinnedBridge
import Derived.ProofKit
namespace Go.Proofs.YtcmpjklkdmpglaaDoor
open Go.ChangeShapes Go.WideShapes Go.ChangeAt Go.RowKit Go.Lib

def lawLaid : List (String × DataW Unit) := [("math/bits.deBruijn32tab", Rows.laid_math_bits_deBruijn32tab), ("math/bits.deBruijn64tab", Rows.laid_math_bits_deBruijn64tab), ("internal/strconv.uint64pow10", Rows.laid_internal_strconv_uint64pow10)]
theorem tab_reads {P : Program} {W : World} {name : String} {k : IntKind} {zs : List Int} {g : Nat} {t e : TypeId} {n : Nat}
    (hg : P.globalNamed name = some g) (hty : (P.globals[g]?).map (·.type) = some t) (ht : P.underlying t = some (.array n e)) (he : P.underlying e = some (.int k)) (hce : P.cellsOf e = 1) (hct : P.cellsOf t = n)
    (h : VarReads P W name (tabData k zs)) : TabIs P W name k zs := by
  obtain ⟨g', t', cs, fuel, p, hg', ht', hvar, hd⟩ := h
  obtain rfl := Option.some.inj (hg.symm.trans hg')
  obtain rfl := Option.some.inj (hty.symm.trans ht')
  unfold TabIs
  rw [hvar, ← cells_of_tab ht he hce hct hd]
def db64 : List Int := deBruijn64tab.map Int.ofNat
def db32 : List Int := deBruijn32tab.map Int.ofNat
theorem e10 : (Rows.laid_internal_strconv_uint64pow10 : DataW Unit) = tabData .u64 pow10Tab := by kernel_rfl
theorem e64 : (Rows.laid_math_bits_deBruijn64tab : DataW Unit) = tabData .u8 db64 := by kernel_rfl
theorem ne_of {W : World} (hL : laidMetH Tryd.prog lawLaid W) : NE W := by
  have h1 : VarReads Tryd.prog W "internal/strconv.uint64pow10" (tabData .u64 pow10Tab) := e10 ▸ Lib.laidMet.reads hL (.tail _ (.tail _ (.head _)))
  have h2 : VarReads Tryd.prog W "math/bits.deBruijn64tab" (tabData .u8 db64) := e64 ▸ Lib.laidMet.reads hL (.tail _ (.head _))
  have t1 := tab_reads (g := 0) (t := 80) (by kernel_rfl) (by kernel_rfl) Tryd.underlying80 Tryd.underlying69 (by kernel_rfl) (by kernel_rfl) h1
  have t2 := tab_reads (g := 2) (t := 87) (by kernel_rfl) (by kernel_rfl) Tryd.underlying87 Tryd.underlying5 (by kernel_rfl) (by kernel_rfl) h2
  exact ⟨t1, by have := t2.cell (g := 2) (by kernel_rfl) 15 (by decide); rw [this]; rfl⟩

/-- a world that holds the tables -/
noncomputable def laidWorld (os : Os) : World :=
  let w0 := World.holding Tryd.prog os ⟨#[], #[], []⟩
  let put (h : Array Obj) (g : Nat) (cs : Array Value) : Array Obj := h.modify g fun
    | .cells _ t frozen => .cells cs t frozen
    | o => o
  let h1 := put w0.heap 0 (pow10Tab.map fun z => Value.int .u64 z).toArray
  let h2 := put h1 2 (db64.map fun z => Value.int .u8 z).toArray
  let h3 := put h2 1 (db32.map fun z => Value.int .u8 z).toArray
  { w0 with heap := h3 }
theorem laid_met_any (os : Os) (args : Array Value) : laidMet Tryd.prog lawLaid ((laidWorld os).forCall (fun _ _ => 0) ⟨#[], args, []⟩).memory :=
  (LaidIn.of_run (l := lawLaid) [1, 2, 0] 8 (by kernel_rfl) (by kernel_rfl) (by kernel_rfl) (by kernel_rfl)).met
end Go.Proofs.YtcmpjklkdmpglaaDoor
