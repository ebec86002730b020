/- Decimals: the library's and the references' (text, Text). -/
import Derived.Lib.ItoaNum
import Derived.Test.YtmndlfglgcioeaaGreatDoorEGEmB
import Derived.Test.YtmndlfglgcioeaaGreatDoorEGReg
set_option maxHeartbeats 40000000
namespace Go.Proofs.YtmndlfglgcioeaaGreatDoor
open Go.RowKit
set_option maxRecDepth 10000
theorem nk:∀ (k u:Nat),u<10 ^ (k+1)->(Lib.decDigits u).length<=k+1
 |0,u,h=>by
  rw[Lib.decDigits,dif_pos (by simpa using h)];simp
 |k+1,u,h=>by
  rw[Lib.decDigits]
  split
  ·simp
  have:=nk k (u/10) (by rw[b0S]at h;omega);rw[ae];simp;exact this
end Go.Proofs.YtmndlfglgcioeaaGreatDoor
