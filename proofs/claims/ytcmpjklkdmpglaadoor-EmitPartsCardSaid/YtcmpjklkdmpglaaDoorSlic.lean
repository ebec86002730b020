/- What slices and strings show at their places. -/
import Derived.Test.YtcmpjklkdmpglaaDoorProg
import Derived.Test.YtcmpjklkdmpglaaDoorBase
namespace Go.Proofs.YtcmpjklkdmpglaaDoor
open Go.RowKit
set_option maxRecDepth 10000

theorem i64_info : (Tryd.prog.info? 3).map (fun i => (i.zero, i.size, i.bytes)) = some (some (.int .i64 0), 1, 8) := by kernel_rfl
theorem u8_info : (Tryd.prog.info? 5).map (fun i => (i.zero, i.size, i.bytes)) = some (some (.int .u8 0), 1, 1) := by kernel_rfl
/-- what a slice of numbers shows at its places -/
theorem slice_at {B : Nat} {w : World} {av : Option Addr} {n c : Nat} {l : List Int} (h : Sl B w (.slice av n c) (I64s l)) (k : Nat) (hk : k < l.length) :
    ∃ b o, av = some ⟨b, o, none⟩ ∧ b < B ∧ w.cell? ⟨b, o + k, none⟩ = some (.int .i64 l[k]) := by
  obtain ⟨c', _, _, h⟩ := h
  rcases h with ⟨hn, a, e⟩ | ⟨b, o, hb, e, hat⟩
  · obtain rfl : l = [] := by simpa using hn
    simp at hk
  · injection e with e1 _ _
    refine ⟨b, o, e1, hb, ?_⟩
    have := hat k (by simpa using hk)
    simpa using this
theorem slice_val {B : Nat} {w : World} {v : Value} {xs : List Value} (h : Sl B w v xs) : ∃ a c, v = .slice a xs.length c := by
  obtain ⟨c, _, _, h⟩ := h
  rcases h with ⟨hn, a, rfl⟩ | ⟨b, o, _, rfl, _⟩
  · subst hn; exact ⟨a, c, rfl⟩
  · exact ⟨_, c, rfl⟩
/-- what a slice of bytes shows at its places -/
theorem slice_atb {B : Nat} {w : World} {av : Option Addr} {n c : Nat} {l : Bytes} (h : Sl B w (.slice av n c) (Lib.byteCells l)) (k : Nat) (hk : k < l.length) :
    ∃ b o, av = some ⟨b, o, none⟩ ∧ b < B ∧ w.cell? ⟨b, o + k, none⟩ = some (.int .u8 (b2 l[k])) := by
  obtain ⟨c', _, _, h⟩ := h
  rcases h with ⟨hn, a, e⟩ | ⟨b, o, hb, e, hat⟩
  · obtain rfl : l = [] := by simpa [Lib.byteCells] using hn
    simp at hk
  · injection e with e1 _ _
    refine ⟨b, o, e1, hb, ?_⟩
    have := hat k (by simpa [Lib.byteCells] using hk)
    simpa [Lib.byteCells, b2] using this
theorem bs_app (l m : Bytes) : bs l ++ bs m = bs (l ++ m) := by
  apply ls_inj
  simp [ls, bs]
theorem str_at {s : ByteArray} {X : Bytes} (h : s = bs X) {k : Nat} (hk : k < s.size) (hx : k < X.length) : ((s[k]'hk).toNat : Int) = b2 X[k] := by
  subst h
  rfl
theorem bytes_snoc (l : Bytes) (y : UInt8) : Lib.byteCells (l ++ [y]) = Lib.byteCells l ++ [.int .u8 (b2 y)] := by simp [Lib.byteCells, b2]
theorem u8_range {c : Int} (h : (Lit.int .u8 c).wf = true) : 0 ≤ c ∧ c < 256 := by
  simp [Lit.wf, IntKind.min, IntKind.max, IntKind.signed, IntKind.bits] at h
  omega
/-- a string's piece -/
theorem bs_extract (l : Bytes) (a b : Nat) : (bs l).extract a b = bs ((l.drop a).take (b - a)) := by
  apply ls_inj
  rw [ls_bs]
  unfold ls bs
  simp [ByteArray.data_extract, List.extract_eq_take_drop]
end Go.Proofs.YtcmpjklkdmpglaaDoor
