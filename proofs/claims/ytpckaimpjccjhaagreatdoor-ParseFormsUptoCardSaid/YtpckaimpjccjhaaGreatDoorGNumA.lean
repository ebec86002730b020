/- Decimals: the library's and the references' (text, Text). -/
import Derived.Lib.ItoaNum
import Derived.Test.YtpckaimpjccjhaaGreatDoorGEmB
import Derived.Test.YtpckaimpjccjhaaGreatDoorGReg
set_option maxHeartbeats 40000000
namespace Go.Proofs.YtpckaimpjccjhaaGreatDoor
open Go.RowKit
set_option maxRecDepth 10000
theorem dec_len_le : ∀ (k u : Nat), u < 10 ^ (k + 1) -> (Lib.decDigits u).length <= k + 1
 | 0, u, h => by
  rw [Lib.decDigits, dif_pos (by simpa using h)]; simp
 | k + 1, u, h => by
  rw [Lib.decDigits]
  split
  ·simp
  ·have := dec_len_le k (u / 10) (by rw [Nat.pow_succ] at h; omega)
   rw [List.length_append]
   simp
   exact this
end Go.Proofs.YtpckaimpjccjhaaGreatDoor
