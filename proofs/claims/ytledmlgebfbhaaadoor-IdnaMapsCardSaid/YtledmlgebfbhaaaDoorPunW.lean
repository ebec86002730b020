/- Plain laws of puny: where the last hyphen stands in what was written. -/
import Derived.Test.YtledmlgebfbhaaaDoorPunU
namespace Go.Proofs.YtledmlgebfbhaaaDoor
open Go.RowKit
set_option maxRecDepth 10000

theorem byte_at (s : Bytes) (j : Nat) (h : j < s.length) : (((bs s).data[j]!).toNat : Int) = b2 s[j] := by
  unfold b2 bs
  simp [h]
theorem hyAt_none {s : Bytes} (h : ∀ y ∈ s, isDg y) : hyAt s = -1 := by
  unfold hyAt Lib.lastIndexByte
  rcases Lib.lastIdx_spec (bs s) 45 (bs s).size with ⟨h1, _⟩ | ⟨i, h1, _, h3, _⟩
  · exact h1
  · rw [bs_size] at h1
    rw [byte_at s i h1] at h3
    have := h s[i] (List.getElem_mem h1)
    unfold isDg at this
    omega
theorem hyAt_some {B W : Bytes} (h : ∀ y ∈ W, isDg y) : hyAt (B ++ 45 :: W) = B.length := by
  unfold hyAt Lib.lastIndexByte
  have hl : (B ++ 45 :: W).length = B.length + 1 + W.length := by rw [List.length_append, List.length_cons]; omega
  have h45 : (((bs (B ++ 45 :: W)).data[B.length]!).toNat : Int) = 45 := by
    rw [byte_at _ _ (by omega)]
    simp [b2]
  rcases Lib.lastIdx_spec (bs (B ++ 45 :: W)) 45 (bs (B ++ 45 :: W)).size with ⟨_, h2⟩ | ⟨i, h1, h2, h3, h4⟩
  · exact absurd h45 (h2 B.length (by rw [bs_size]; omega))
  · rw [h2]
    rw [bs_size] at h1 h4
    have hcs : i < B.length ∨ i = B.length ∨ B.length < i := by omega
    rcases hcs with hc | hc | hc
    · exact absurd h45 (h4 B.length hc (by omega))
    · rw [hc]
    · exfalso
      rw [byte_at _ i h1] at h3
      obtain ⟨q, rfl⟩ : ∃ q, i = B.length + 1 + q := ⟨i - B.length - 1, by omega⟩
      have hq : q < W.length := by omega
      have e : (B ++ 45 :: W)[B.length + 1 + q] = W[q] := by
        rw [List.getElem_append_right (by omega)]
        simp [show B.length + 1 + q - B.length = q + 1 by omega]
      rw [e] at h3
      have := h W[q] (List.getElem_mem hq)
      unfold isDg at this
      omega
end Go.Proofs.YtledmlgebfbhaaaDoor
