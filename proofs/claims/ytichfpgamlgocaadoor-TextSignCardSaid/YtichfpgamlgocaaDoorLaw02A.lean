/- The walk of TextSign. -/
import Derived.Test.YtichfpgamlgocaaDoorTextS
namespace Go.Proofs.YtichfpgamlgocaaDoor
open Go.RowKit

set_option maxHeartbeats 400000 in
theorem textSign_walk (a : Int) (w : World) (_ha : (Lit.int .i64 a).wf = true) (hT : Tabs w) :
    Calls Tryd.prog 4 #[.int .i64 a] w fun e w' => e = .returned (.bool true) ∧ Below w.heap.size w w' := by
  have HT := Lib.hid hT; clear hT
  go_enter Tryd.func4, Tryd.ntmps4
  go_wp2_with fail
  refine (small_any _ HT.out).mono ?_
  rintro e w1 ⟨rfl, hb1⟩
  have HB1 := Lib.hid hb1; clear hb1
  go_wp2_with fail
  refine (sign_any _ _).mono ?_
  rintro e w2 ⟨rfl, rfl⟩
  go_wp2_with fail
  refine (rsign_any _ _).mono ?_
  rintro e w2 ⟨rfl, hb2⟩
  have HB2 := Lib.hid (HB1.out.trans (hb2.mono HB1.out.size)); clear hb2
  go_wp2
  go_ret
  exact ⟨ret1_bool (by simp), HB2.out⟩
end Go.Proofs.YtichfpgamlgocaaDoor
