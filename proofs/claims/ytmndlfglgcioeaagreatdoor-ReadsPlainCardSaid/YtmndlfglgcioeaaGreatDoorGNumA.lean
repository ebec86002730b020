/- Decimals: the library's and the references' (text, Text). -/
import Derived.Lib.ItoaNum
import Derived.Test.YtmndlfglgcioeaaGreatDoorGEmB
import Derived.Test.YtmndlfglgcioeaaGreatDoorGReg
set_option maxHeartbeats 40000000
namespace Go.Proofs.YtmndlfglgcioeaaGreatDoor
open Go.RowKit
set_option maxRecDepth 10000
theorem UH {P:Program} {src dst e:TypeId} (hs:P.underlying src=some (.slice e)) (he:P.underlying e=some (.int .u8)) (hd:P.underlying dst=some .string)
  (a:Int) (ha:0<=a∧a<256) (b:Nat) (W:World) (h:W.cell? ⟨b,0,none⟩=some (.int .u8 a)):(convert src dst (.slice (some ⟨b,0,none⟩) 1 1)).run P W=.ok (.string (bs [UInt8.ofNat a.toNat])) W :=
 run_convert_bytes_back (P:=P) W src dst e ⟨b,0,none⟩ 1 [UInt8.ofNat a.toNat] hs he hd (fun j hj=>by
  have h0:j=0:=by simpa using hj
  subst h0
  rw[addr_add]
  rw[h]
  simp
  omega)
theorem jn:∀ (k u:Nat),u<10 ^ (k+1)->(Lib.decDigits u).length<=k+1
 |0,u,h=>by
  rw[Lib.decDigits,dif_pos (by simpa using h)];simp
 |k+1,u,h=>by
  rw[Lib.decDigits]
  split
  ·simp
  have:=jn k (u/10) (by rw[Nat.pow_succ]at h;omega)
  rw[af]
  simp
  exact this
theorem Gn {u:Nat} (h:u<10):Lib.decDigits u=[UInt8.ofNat (48+u)]:=by rw[Lib.decDigits,dif_pos h]
theorem Pr {u:Nat} (h:¬ u<10):Lib.decDigits u=Lib.decDigits (u/10)++[UInt8.ofNat (48+u%10)]:=by rw[Lib.decDigits,dif_neg h]
end Go.Proofs.YtmndlfglgcioeaaGreatDoor
