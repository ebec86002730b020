/-
  No cell of these rows narrows 'for every input' (looked for: loops, veiled, ifaces, maps, wideKeys, modest, calm, conditions, laid).
  DERIVED. THE GIVEN ROWS OF THIS SEAT. 5 by the template 'for every input the law returns true; each argument reads behind the call as it read before'; 0 by the template 'total and deterministic' (their statements: YtichfpgamlgocaaTotals.lean).
  GIVEN WITH THE SEED: the statements are not yours to turn. If you find one false, say at which input.
  Laid BY PROGRAM, IN A SANDBOX (cutbox-rows.mjs): the forced cells as the released guide's own fill.sh prints them over the translation ee7a92785d657384… (all of the seat's roots in one cut). By AI agents, Wed Nov 11 2026. No macro, syntax, notation, axiom, sorry.
-/
import Derived.Test.YtichfpgamlgocaaChecked
import GoSem.Claim
import GoSem.ClaimJoined
import GoSem.ClaimMapViews
import Derived.JoinedTies
import Derived.KernelRfl
namespace Go.Proofs.Ytichfpgamlgocaa
/- THE CELL 'sum', in the pinned program and in every row, IS THE sha256 OF THE DUMP (.gsa) THAT YtichfpgamlgocaaProg.lean LOADS. Nothing in Lean hashes anything: it is a label: what it is worth is what the hold of that sum in a sandbox is worth. -/
noncomputable def Try.pinned : Pinned := { name := "ytichfpgamlgocaa", sum := "ee7a92785d65738416a47174dd756694ed04ddf1194a935f7d704fe7fe1cea85", checked := Try.checked }
namespace Rows
def none {H : Type} : Left H := { results := [], args := [] }

/-- 'tamislaw07.PunyTells': WHATEVER THE INPUT: true; the input reads as it did. -/
def punyTellsSpec : ChangeSpec := { name := "punyTells", fn := fun _ => fun
  | [d1, d2] => { results := [.lit (.bool true)], args := [d1, d2] }
  | _ => none }
def punyTellsRow : OpenClaim := { program := "ytichfpgamlgocaa", sum := "ee7a92785d65738416a47174dd756694ed04ddf1194a935f7d704fe7fe1cea85", func := "tamis/tamislaw07.PunyTells", spec := "punyTells", inPlace := ["slices.overlaps[int]"], apart := false }
def PunyTellsSaid : Prop := punyTellsRow.holds Try.pinned (OpenSpec.ofChange punyTellsSpec)

/-- ITS FALSE NEIGHBOUR: 'it returns false'. Refute it at one input. -/
def punyTellsWrong : ChangeSpec := { name := "punyTells", fn := fun _ => fun
  | [d1, d2] => { results := [.lit (.bool false)], args := [d1, d2] }
  | _ => none }
def PunyTellsWrongFalsely : Prop := punyTellsRow.holds Try.pinned (OpenSpec.ofChange punyTellsWrong)

/-- 'tamislaw07.PunyBack': WHATEVER THE INPUT: true; the input reads as it did. -/
def punyBackSpec : ChangeSpec := { name := "punyBack", fn := fun _ => fun
  | [d] => { results := [.lit (.bool true)], args := [d] }
  | _ => none }
def punyBackRow : OpenClaim := { program := "ytichfpgamlgocaa", sum := "ee7a92785d65738416a47174dd756694ed04ddf1194a935f7d704fe7fe1cea85", func := "tamis/tamislaw07.PunyBack", spec := "punyBack", inPlace := ["slices.overlaps[int]"], apart := false }
def PunyBackSaid : Prop := punyBackRow.holds Try.pinned (OpenSpec.ofChange punyBackSpec)

/-- ITS FALSE NEIGHBOUR: 'it returns false'. Refute it at one input. -/
def punyBackWrong : ChangeSpec := { name := "punyBack", fn := fun _ => fun
  | [d] => { results := [.lit (.bool false)], args := [d] }
  | _ => none }
def PunyBackWrongFalsely : Prop := punyBackRow.holds Try.pinned (OpenSpec.ofChange punyBackWrong)

/-- 'tamislaw07.PunyApart': WHATEVER THE INPUT: true; the input reads as it did. -/
def punyApartSpec : ChangeSpec := { name := "punyApart", fn := fun _ => fun
  | [d1, d2] => { results := [.lit (.bool true)], args := [d1, d2] }
  | _ => none }
def punyApartRow : OpenClaim := { program := "ytichfpgamlgocaa", sum := "ee7a92785d65738416a47174dd756694ed04ddf1194a935f7d704fe7fe1cea85", func := "tamis/tamislaw07.PunyApart", spec := "punyApart", inPlace := ["slices.overlaps[int]"], apart := false }
def PunyApartSaid : Prop := punyApartRow.holds Try.pinned (OpenSpec.ofChange punyApartSpec)

/-- ITS FALSE NEIGHBOUR: 'it returns false'. Refute it at one input. -/
def punyApartWrong : ChangeSpec := { name := "punyApart", fn := fun _ => fun
  | [d1, d2] => { results := [.lit (.bool false)], args := [d1, d2] }
  | _ => none }
def PunyApartWrongFalsely : Prop := punyApartRow.holds Try.pinned (OpenSpec.ofChange punyApartWrong)

/-- 'tamislaw07.PunyOnce': WHATEVER THE INPUT: true; the input reads as it did. -/
def punyOnceSpec : ChangeSpec := { name := "punyOnce", fn := fun _ => fun
  | [d] => { results := [.lit (.bool true)], args := [d] }
  | _ => none }
def punyOnceRow : OpenClaim := { program := "ytichfpgamlgocaa", sum := "ee7a92785d65738416a47174dd756694ed04ddf1194a935f7d704fe7fe1cea85", func := "tamis/tamislaw07.PunyOnce", spec := "punyOnce", inPlace := ["slices.overlaps[int]"], apart := false }
def PunyOnceSaid : Prop := punyOnceRow.holds Try.pinned (OpenSpec.ofChange punyOnceSpec)

/-- ITS FALSE NEIGHBOUR: 'it returns false'. Refute it at one input. -/
def punyOnceWrong : ChangeSpec := { name := "punyOnce", fn := fun _ => fun
  | [d] => { results := [.lit (.bool false)], args := [d] }
  | _ => none }
def PunyOnceWrongFalsely : Prop := punyOnceRow.holds Try.pinned (OpenSpec.ofChange punyOnceWrong)

/-- 'tamislaw07.PunyPlain': WHATEVER THE INPUT: true; the input reads as it did. -/
def punyPlainSpec : ChangeSpec := { name := "punyPlain", fn := fun _ => fun
  | [d] => { results := [.lit (.bool true)], args := [d] }
  | _ => none }
def punyPlainRow : OpenClaim := { program := "ytichfpgamlgocaa", sum := "ee7a92785d65738416a47174dd756694ed04ddf1194a935f7d704fe7fe1cea85", func := "tamis/tamislaw07.PunyPlain", spec := "punyPlain", inPlace := ["slices.overlaps[int]"], apart := false }
def PunyPlainSaid : Prop := punyPlainRow.holds Try.pinned (OpenSpec.ofChange punyPlainSpec)

/-- ITS FALSE NEIGHBOUR: 'it returns false'. Refute it at one input. -/
def punyPlainWrong : ChangeSpec := { name := "punyPlain", fn := fun _ => fun
  | [d] => { results := [.lit (.bool false)], args := [d] }
  | _ => none }
def PunyPlainWrongFalsely : Prop := punyPlainRow.holds Try.pinned (OpenSpec.ofChange punyPlainWrong)

/- THE SECOND FORM. 'bulk': how many values and letters a reading holds, each counted each time it is reached (what is shared counts as often as it is met; a slice's spare places count too). A statement '..UptoSaid' is the law's where the arguments, and the package variables that the reading takes, are together of bulk at most 1048576: NARROWER than '..Said'. Prove '..Said' where nothing that the law and all that it calls make is longer than what came in: it says more and counts as full. Else prove '..UptoSaid'. A law counts once. -/
mutual
def uptoBulk {H : Type} : DataW H → Nat
  | .lit (.string bytes) => bytes.length + 1
  | .lit _ => 1
  | .nil => 1
  | .ptr d => uptoBulk d + 1
  | .slice elems spare => uptoBulkAll elems + uptoBulkAll spare + 1
  | .agg parts => uptoBulkAll parts + 1
  | .iface _ d => uptoBulk d + 1
  | .map entries => uptoBulkEntries entries + 1
  | .held _ => 1
def uptoBulkAll {H : Type} : List (DataW H) → Nat
  | [] => 0
  | d :: r => uptoBulk d + uptoBulkAll r
def uptoBulkEntries {H : Type} : List (Lit × DataW H) → Nat
  | [] => 0
  | x :: r => uptoBulkEntry x + uptoBulkEntries r
def uptoBulkEntry {H : Type} : Lit × DataW H → Nat
  | (.string bytes, d) => bytes.length + uptoBulk d + 1
  | (_, d) => uptoBulk d + 1
 end
def uptoSmall : (H : Type) → List (DataW H) → Bool := fun _ ds => decide (uptoBulkAll ds ≤ 1048576)
def OpenSpec.upto (s : _root_.Go.ChangeSpec) : _root_.Go.OpenSpec := { _root_.Go.OpenSpec.ofChange s with cond := some uptoSmall }

/-- 'tamislaw07.PunyTells', WHERE WHAT IT READS IS OF BULK AT MOST 1048576: true; the input reads as it did. -/
def punyTellsUptoRow : OpenClaim := { program := "ytichfpgamlgocaa", sum := "ee7a92785d65738416a47174dd756694ed04ddf1194a935f7d704fe7fe1cea85", func := "tamis/tamislaw07.PunyTells", spec := "punyTells", inPlace := ["slices.overlaps[int]"], apart := false, narrowed := true }
def PunyTellsUptoSaid : Prop := punyTellsUptoRow.holds Try.pinned (OpenSpec.upto punyTellsSpec)

/-- 'tamislaw07.PunyBack', WHERE WHAT IT READS IS OF BULK AT MOST 1048576: true; the input reads as it did. -/
def punyBackUptoRow : OpenClaim := { program := "ytichfpgamlgocaa", sum := "ee7a92785d65738416a47174dd756694ed04ddf1194a935f7d704fe7fe1cea85", func := "tamis/tamislaw07.PunyBack", spec := "punyBack", inPlace := ["slices.overlaps[int]"], apart := false, narrowed := true }
def PunyBackUptoSaid : Prop := punyBackUptoRow.holds Try.pinned (OpenSpec.upto punyBackSpec)

/-- 'tamislaw07.PunyApart', WHERE WHAT IT READS IS OF BULK AT MOST 1048576: true; the input reads as it did. -/
def punyApartUptoRow : OpenClaim := { program := "ytichfpgamlgocaa", sum := "ee7a92785d65738416a47174dd756694ed04ddf1194a935f7d704fe7fe1cea85", func := "tamis/tamislaw07.PunyApart", spec := "punyApart", inPlace := ["slices.overlaps[int]"], apart := false, narrowed := true }
def PunyApartUptoSaid : Prop := punyApartUptoRow.holds Try.pinned (OpenSpec.upto punyApartSpec)

/-- 'tamislaw07.PunyOnce', WHERE WHAT IT READS IS OF BULK AT MOST 1048576: true; the input reads as it did. -/
def punyOnceUptoRow : OpenClaim := { program := "ytichfpgamlgocaa", sum := "ee7a92785d65738416a47174dd756694ed04ddf1194a935f7d704fe7fe1cea85", func := "tamis/tamislaw07.PunyOnce", spec := "punyOnce", inPlace := ["slices.overlaps[int]"], apart := false, narrowed := true }
def PunyOnceUptoSaid : Prop := punyOnceUptoRow.holds Try.pinned (OpenSpec.upto punyOnceSpec)

/-- 'tamislaw07.PunyPlain', WHERE WHAT IT READS IS OF BULK AT MOST 1048576: true; the input reads as it did. -/
def punyPlainUptoRow : OpenClaim := { program := "ytichfpgamlgocaa", sum := "ee7a92785d65738416a47174dd756694ed04ddf1194a935f7d704fe7fe1cea85", func := "tamis/tamislaw07.PunyPlain", spec := "punyPlain", inPlace := ["slices.overlaps[int]"], apart := false, narrowed := true }
def PunyPlainUptoSaid : Prop := punyPlainUptoRow.holds Try.pinned (OpenSpec.upto punyPlainSpec)

end Rows
end Go.Proofs.Ytichfpgamlgocaa
