/- The plain form of entity.Decode: names, numbers, references (written by genEntA.py). -/
import Derived.Test.YtpckaimpjccjhaaGreatDoorGTextD
import Derived.Test.YtpckaimpjccjhaaGreatDoorGSlic
import Derived.Test.YtpckaimpjccjhaaGreatDoorGEmB
set_option maxHeartbeats 40000000
namespace Go.Proofs.YtpckaimpjccjhaaGreatDoor
open Go.RowKit
set_option maxRecDepth 10000
theorem byte_all {P : UInt8 -> Prop} (h : ∀ k : Fin 256, P (UInt8.ofNat k.val)) (x : UInt8) : P x := by
 have := h ⟨x.toNat, x.toNat_lt⟩
 rw [UInt8.ofNat_toNat] at this
 exact this
end Go.Proofs.YtpckaimpjccjhaaGreatDoor
