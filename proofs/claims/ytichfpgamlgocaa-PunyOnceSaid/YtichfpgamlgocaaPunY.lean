/- The small cases of 07, in plain Lean. -/
import Derived.Test.YtichfpgamlgocaaPunX
namespace Go.Proofs.Ytichfpgamlgocaa
open Go.RowKit

theorem e1 : encR [98, 252, 99, 104, 101, 114] = ([98, 99, 104, 101, 114, 45, 107, 118, 97], true) := by decide +kernel
theorem e2 : encR [97, 98] = ([97, 98, 45], true) := by decide +kernel
theorem e3 : encR [55296] = ([], false) := by decide +kernel
theorem d1 : decF (ls ⟨#[98, 99, 104, 101, 114, 45, 75, 86, 65]⟩) = some [98, 252, 99, 104, 101, 114] := by decide +kernel
theorem d2 : decF (ls ⟨#[105, 104, 113, 119, 99, 114, 98, 52, 99, 118, 56, 97, 56, 100, 113, 103, 48, 53, 54, 112, 113, 106, 121, 101]⟩) = some [0x4ed6, 0x4eec, 0x4e3a, 0x4ec0, 0x4e48, 0x4e0d, 0x8bf4, 0x4e2d, 0x6587] := by decide +kernel
theorem d3 : decF (ls ⟨#[45, 107, 118, 97]⟩) = none := by decide +kernel
theorem d4 : decF (ls ⟨#[98, 99, 104, 101, 114, 45, 107, 118, 128]⟩) = none := by decide +kernel
theorem d5 : decF (ls ⟨#[]⟩) = some [] := by decide +kernel
end Go.Proofs.Ytichfpgamlgocaa
