/- NumB NumF: joined. -/
import Derived.Shelf.Strconv.AppendUint10
import Derived.Lib.SmallJoins
import Derived.Laws.BitsLemmas
import Derived.Deep.DeepCutAuto
import Derived.Lib.ItoaNum
import Derived.Test.YtjgenpooedkfmaaDoorGEmB
import Derived.Test.YtjgenpooedkfmaaDoorGReg
import Derived.Test.YtjgenpooedkfmaaDoorShelf
import Derived.Test.YtjgenpooedkfmaaDoorGArr
/- The library's numerals: base 10, base 16 (below 65536). -/
namespace Go.Proofs.YtjgenpooedkfmaaDoor
open Go.RowKit
set_option maxRecDepth 10000

/-- the digits of base 16 -/
def hexd (n : Nat) : UInt8 := UInt8.ofNat (if n < 10 then 48 + n else 87 + n)
def hexF (u : Nat) : Bytes := if _h : u < 16 then [hexd u] else hexF (u / 16) ++ [hexd (u % 16)]
termination_by u
decreasing_by omega
theorem hex_small {u : Nat} (h : u < 16) : hexF u = [hexd u] := by rw [hexF, dif_pos h]
theorem hex_big {u : Nat} (h : ¬ u < 16) : hexF u = hexF (u / 16) ++ [hexd (u % 16)] := by rw [hexF, dif_neg h]
end Go.Proofs.YtjgenpooedkfmaaDoor

/- Addresses of eight pieces as texts: the reference's walks. -/
namespace Go.Proofs.YtjgenpooedkfmaaDoor
open Go.RowKit
set_option maxRecDepth 10000

/-- what stands at a text's end -/
structure LastC (l : Bytes) (c : Bool) : Prop where
  yes : c = true → ∃ p x, l = p ++ [x] ∧ x ≠ 58
  no : c = false → l = [] ∨ ∃ p, l = p ++ [58]
theorem hexd_ne (n : Nat) (h : n < 16) : hexd n ≠ 58 := by
  have : ∀ k : Fin 16, hexd k.val ≠ 58 := by decide +kernel
  exact this ⟨n, h⟩
theorem hex_last (u : Nat) : ∃ p x, hexF u = p ++ [x] ∧ x ≠ 58 := by
  by_cases h : u < 16
  · exact ⟨[], hexd u, by rw [hex_small h]; rfl, hexd_ne u h⟩
  · exact ⟨hexF (u / 16), hexd (u % 16), hex_big h, hexd_ne _ (by omega)⟩
theorem LastC.hex (l : Bytes) (u : Nat) : LastC (l ++ hexF u) true := by
  obtain ⟨p, x, h1, h2⟩ := hex_last u
  refine ⟨fun _ => ⟨l ++ p, x, by rw [h1, List.append_assoc], h2⟩, fun h => by cases h⟩
end Go.Proofs.YtjgenpooedkfmaaDoor
