/-
  NARROWER THAN 'FOR EVERY INPUT', by the rows' own cells (each row's printed sentence says how): TextDecodes: laid · TextSign: laid · TextBack: laid · TextOnce: laid · TextParts: laid · TextPlain: laid · TextBroken: laid.
  DERIVED. THE GIVEN ROWS OF THIS SEAT. 7 by the template 'for every input the law returns true; each argument reads behind the call as it read before'; 0 by the template 'total and deterministic' (their statements: YtichfpgamlgocaaDoorTotals.lean).
  GIVEN WITH THE SEED: the statements are not yours to turn. If you find one false, say at which input.
  Laid BY PROGRAM, IN A SANDBOX (cutbox-rows.mjs): the forced cells as the released guide's own fill.sh prints them over the translation 24673cadecb72cfb… (all of the seat's roots in one cut). By AI agents, Wed Nov 11 2026. No macro, syntax, notation, axiom, sorry.
-/
import Derived.Test.YtichfpgamlgocaaDoorChecked
import GoSem.PinnedTables
import GoSem.Claim
import GoSem.ClaimJoined
import GoSem.ClaimMapViews
import Derived.JoinedTies
import Derived.KernelRfl
namespace Go.Proofs.YtichfpgamlgocaaDoor
/- THE CELL 'sum', in the pinned program and in every row, IS THE sha256 OF THE DUMP (.gsa) THAT YtichfpgamlgocaaDoorProg.lean LOADS. Nothing in Lean hashes anything: it is a label: what it is worth is what the hold of that sum in a sandbox is worth. -/
noncomputable def Tryd.pinned : Pinned := { name := "ytichfpgamlgocaadoor", sum := "24673cadecb72cfbf3b11f61971e079492262ea4464a635a9ce0b9443e13ff8a", checked := Tryd.checked }
namespace Rows
def none {H : Type} : Left H := { results := [], args := [] }

/- WHAT THE LISTED PACKAGE-LEVEL VARIABLES READ AS WHEN THE CALL BEGINS. Each datum BY PROGRAM (the guide's laid-datum.mjs) off the statement by which the dump's own 'gosem.cut.vars' lays the variable. In a bare row this is a premise. The card (YtichfpgamlgocaaDoorCards.lean) ties it to the program's text. -/
def laid_unicode_utf8_acceptRanges {H : Type} : DataW H := .agg [.agg [.lit (.int .u8 128), .lit (.int .u8 191)], .agg [.lit (.int .u8 160), .lit (.int .u8 191)], .agg [.lit (.int .u8 128), .lit (.int .u8 159)], .agg [.lit (.int .u8 144), .lit (.int .u8 191)], .agg [.lit (.int .u8 128), .lit (.int .u8 143)], .agg [.lit (.int .u8 0), .lit (.int .u8 0)], .agg [.lit (.int .u8 0), .lit (.int .u8 0)], .agg [.lit (.int .u8 0), .lit (.int .u8 0)], .agg [.lit (.int .u8 0), .lit (.int .u8 0)], .agg [.lit (.int .u8 0), .lit (.int .u8 0)], .agg [.lit (.int .u8 0), .lit (.int .u8 0)], .agg [.lit (.int .u8 0), .lit (.int .u8 0)], .agg [.lit (.int .u8 0), .lit (.int .u8 0)], .agg [.lit (.int .u8 0), .lit (.int .u8 0)], .agg [.lit (.int .u8 0), .lit (.int .u8 0)], .agg [.lit (.int .u8 0), .lit (.int .u8 0)]]
/-- One of Go's own tables, pinned by name: the form's constant. -/
def laid_unicode_utf8_first : DataW Unit := Go.Pinned.utf8First

/-- 'tamislaw02.TextDecodes': WHATEVER THE INPUT: true; the input reads as it did. -/
def textDecodesSpec : ChangeSpec := { name := "textDecodes", fn := fun _ => fun
  | [d] => { results := [.lit (.bool true)], args := [d] }
  | _ => none }
def textDecodesRow : OpenClaim := { program := "ytichfpgamlgocaadoor", sum := "24673cadecb72cfbf3b11f61971e079492262ea4464a635a9ce0b9443e13ff8a", func := "tamis/tamislaw02.TextDecodes", spec := "textDecodes", inPlace := ["internal/abi.NoEscape"], named := ["unicode/utf8.first", "unicode/utf8.acceptRanges"], apart := false, laid := [("unicode/utf8.acceptRanges", laid_unicode_utf8_acceptRanges), ("unicode/utf8.first", laid_unicode_utf8_first)] }
def TextDecodesSaid : Prop := textDecodesRow.holds Tryd.pinned (OpenSpec.ofChange textDecodesSpec)

/-- ITS FALSE NEIGHBOUR: 'it returns false'. Refute it at one input. -/
def textDecodesWrong : ChangeSpec := { name := "textDecodes", fn := fun _ => fun
  | [d] => { results := [.lit (.bool false)], args := [d] }
  | _ => none }
def TextDecodesWrongFalsely : Prop := textDecodesRow.holds Tryd.pinned (OpenSpec.ofChange textDecodesWrong)

/-- 'tamislaw02.TextSign': WHATEVER THE INPUT: true; the input reads as it did. -/
def textSignSpec : ChangeSpec := { name := "textSign", fn := fun _ => fun
  | [d] => { results := [.lit (.bool true)], args := [d] }
  | _ => none }
def textSignRow : OpenClaim := { program := "ytichfpgamlgocaadoor", sum := "24673cadecb72cfbf3b11f61971e079492262ea4464a635a9ce0b9443e13ff8a", func := "tamis/tamislaw02.TextSign", spec := "textSign", inPlace := ["internal/abi.NoEscape"], named := ["unicode/utf8.first", "unicode/utf8.acceptRanges"], apart := false, laid := [("unicode/utf8.acceptRanges", laid_unicode_utf8_acceptRanges), ("unicode/utf8.first", laid_unicode_utf8_first)] }
def TextSignSaid : Prop := textSignRow.holds Tryd.pinned (OpenSpec.ofChange textSignSpec)

/-- ITS FALSE NEIGHBOUR: 'it returns false'. Refute it at one input. -/
def textSignWrong : ChangeSpec := { name := "textSign", fn := fun _ => fun
  | [d] => { results := [.lit (.bool false)], args := [d] }
  | _ => none }
def TextSignWrongFalsely : Prop := textSignRow.holds Tryd.pinned (OpenSpec.ofChange textSignWrong)

/-- 'tamislaw02.TextBack': WHATEVER THE INPUT: true; the input reads as it did. -/
def textBackSpec : ChangeSpec := { name := "textBack", fn := fun _ => fun
  | [d] => { results := [.lit (.bool true)], args := [d] }
  | _ => none }
def textBackRow : OpenClaim := { program := "ytichfpgamlgocaadoor", sum := "24673cadecb72cfbf3b11f61971e079492262ea4464a635a9ce0b9443e13ff8a", func := "tamis/tamislaw02.TextBack", spec := "textBack", inPlace := ["internal/abi.NoEscape"], named := ["unicode/utf8.first", "unicode/utf8.acceptRanges"], apart := false, laid := [("unicode/utf8.acceptRanges", laid_unicode_utf8_acceptRanges), ("unicode/utf8.first", laid_unicode_utf8_first)] }
def TextBackSaid : Prop := textBackRow.holds Tryd.pinned (OpenSpec.ofChange textBackSpec)

/-- ITS FALSE NEIGHBOUR: 'it returns false'. Refute it at one input. -/
def textBackWrong : ChangeSpec := { name := "textBack", fn := fun _ => fun
  | [d] => { results := [.lit (.bool false)], args := [d] }
  | _ => none }
def TextBackWrongFalsely : Prop := textBackRow.holds Tryd.pinned (OpenSpec.ofChange textBackWrong)

/-- 'tamislaw02.TextOnce': WHATEVER THE INPUT: true; the input reads as it did. -/
def textOnceSpec : ChangeSpec := { name := "textOnce", fn := fun _ => fun
  | [d] => { results := [.lit (.bool true)], args := [d] }
  | _ => none }
def textOnceRow : OpenClaim := { program := "ytichfpgamlgocaadoor", sum := "24673cadecb72cfbf3b11f61971e079492262ea4464a635a9ce0b9443e13ff8a", func := "tamis/tamislaw02.TextOnce", spec := "textOnce", inPlace := ["internal/abi.NoEscape"], named := ["unicode/utf8.first", "unicode/utf8.acceptRanges"], apart := false, laid := [("unicode/utf8.acceptRanges", laid_unicode_utf8_acceptRanges), ("unicode/utf8.first", laid_unicode_utf8_first)] }
def TextOnceSaid : Prop := textOnceRow.holds Tryd.pinned (OpenSpec.ofChange textOnceSpec)

/-- ITS FALSE NEIGHBOUR: 'it returns false'. Refute it at one input. -/
def textOnceWrong : ChangeSpec := { name := "textOnce", fn := fun _ => fun
  | [d] => { results := [.lit (.bool false)], args := [d] }
  | _ => none }
def TextOnceWrongFalsely : Prop := textOnceRow.holds Tryd.pinned (OpenSpec.ofChange textOnceWrong)

/-- 'tamislaw02.TextParts': WHATEVER THE INPUT: true; the input reads as it did. -/
def textPartsSpec : ChangeSpec := { name := "textParts", fn := fun _ => fun
  | [d1, d2, d3] => { results := [.lit (.bool true)], args := [d1, d2, d3] }
  | _ => none }
def textPartsRow : OpenClaim := { program := "ytichfpgamlgocaadoor", sum := "24673cadecb72cfbf3b11f61971e079492262ea4464a635a9ce0b9443e13ff8a", func := "tamis/tamislaw02.TextParts", spec := "textParts", inPlace := ["internal/abi.NoEscape"], named := ["unicode/utf8.first", "unicode/utf8.acceptRanges"], apart := false, laid := [("unicode/utf8.acceptRanges", laid_unicode_utf8_acceptRanges), ("unicode/utf8.first", laid_unicode_utf8_first)] }
def TextPartsSaid : Prop := textPartsRow.holds Tryd.pinned (OpenSpec.ofChange textPartsSpec)

/-- ITS FALSE NEIGHBOUR: 'it returns false'. Refute it at one input. -/
def textPartsWrong : ChangeSpec := { name := "textParts", fn := fun _ => fun
  | [d1, d2, d3] => { results := [.lit (.bool false)], args := [d1, d2, d3] }
  | _ => none }
def TextPartsWrongFalsely : Prop := textPartsRow.holds Tryd.pinned (OpenSpec.ofChange textPartsWrong)

/-- 'tamislaw02.TextPlain': WHATEVER THE INPUT: true; the input reads as it did. -/
def textPlainSpec : ChangeSpec := { name := "textPlain", fn := fun _ => fun
  | [d] => { results := [.lit (.bool true)], args := [d] }
  | _ => none }
def textPlainRow : OpenClaim := { program := "ytichfpgamlgocaadoor", sum := "24673cadecb72cfbf3b11f61971e079492262ea4464a635a9ce0b9443e13ff8a", func := "tamis/tamislaw02.TextPlain", spec := "textPlain", inPlace := ["internal/abi.NoEscape"], named := ["unicode/utf8.first", "unicode/utf8.acceptRanges"], apart := false, laid := [("unicode/utf8.acceptRanges", laid_unicode_utf8_acceptRanges), ("unicode/utf8.first", laid_unicode_utf8_first)] }
def TextPlainSaid : Prop := textPlainRow.holds Tryd.pinned (OpenSpec.ofChange textPlainSpec)

/-- ITS FALSE NEIGHBOUR: 'it returns false'. Refute it at one input. -/
def textPlainWrong : ChangeSpec := { name := "textPlain", fn := fun _ => fun
  | [d] => { results := [.lit (.bool false)], args := [d] }
  | _ => none }
def TextPlainWrongFalsely : Prop := textPlainRow.holds Tryd.pinned (OpenSpec.ofChange textPlainWrong)

/-- 'tamislaw02.TextBroken': WHATEVER THE INPUT: true; the input reads as it did. -/
def textBrokenSpec : ChangeSpec := { name := "textBroken", fn := fun _ => fun
  | [d1, d2, d3] => { results := [.lit (.bool true)], args := [d1, d2, d3] }
  | _ => none }
def textBrokenRow : OpenClaim := { program := "ytichfpgamlgocaadoor", sum := "24673cadecb72cfbf3b11f61971e079492262ea4464a635a9ce0b9443e13ff8a", func := "tamis/tamislaw02.TextBroken", spec := "textBroken", inPlace := ["internal/abi.NoEscape"], named := ["unicode/utf8.first", "unicode/utf8.acceptRanges"], apart := false, laid := [("unicode/utf8.acceptRanges", laid_unicode_utf8_acceptRanges), ("unicode/utf8.first", laid_unicode_utf8_first)] }
def TextBrokenSaid : Prop := textBrokenRow.holds Tryd.pinned (OpenSpec.ofChange textBrokenSpec)

/-- ITS FALSE NEIGHBOUR: 'it returns false'. Refute it at one input. -/
def textBrokenWrong : ChangeSpec := { name := "textBroken", fn := fun _ => fun
  | [d1, d2, d3] => { results := [.lit (.bool false)], args := [d1, d2, d3] }
  | _ => none }
def TextBrokenWrongFalsely : Prop := textBrokenRow.holds Tryd.pinned (OpenSpec.ofChange textBrokenWrong)

/- THE SECOND FORM. 'bulk': how many values and letters a reading holds, each counted each time it is reached (what is shared counts as often as it is met; a slice's spare places count too). A statement '..UptoSaid' is the law's where the arguments, and the package variables that the reading takes, are together of bulk at most 1048576: NARROWER than '..Said'. Prove '..Said' where nothing that the law and all that it calls make is longer than what came in: it says more and counts as full. Else prove '..UptoSaid'. A law counts once. -/
mutual
def uptoBulk {H : Type} : DataW H → Nat
  | .lit (.string bytes) => bytes.length + 1
  | .lit _ => 1
  | .nil => 1
  | .ptr d => uptoBulk d + 1
  | .slice elems spare => uptoBulkAll elems + uptoBulkAll spare + 1
  | .agg parts => uptoBulkAll parts + 1
  | .iface _ d => uptoBulk d + 1
  | .map entries => uptoBulkEntries entries + 1
  | .held _ => 1
def uptoBulkAll {H : Type} : List (DataW H) → Nat
  | [] => 0
  | d :: r => uptoBulk d + uptoBulkAll r
def uptoBulkEntries {H : Type} : List (Lit × DataW H) → Nat
  | [] => 0
  | x :: r => uptoBulkEntry x + uptoBulkEntries r
def uptoBulkEntry {H : Type} : Lit × DataW H → Nat
  | (.string bytes, d) => bytes.length + uptoBulk d + 1
  | (_, d) => uptoBulk d + 1
 end
def uptoSmall : (H : Type) → List (DataW H) → Bool := fun _ ds => decide (uptoBulkAll ds ≤ 1048576)
def OpenSpec.upto (s : _root_.Go.ChangeSpec) : _root_.Go.OpenSpec := { _root_.Go.OpenSpec.ofChange s with cond := some uptoSmall }

/-- 'tamislaw02.TextDecodes', WHERE WHAT IT READS IS OF BULK AT MOST 1048576: true; the input reads as it did. -/
def textDecodesUptoRow : OpenClaim := { program := "ytichfpgamlgocaadoor", sum := "24673cadecb72cfbf3b11f61971e079492262ea4464a635a9ce0b9443e13ff8a", func := "tamis/tamislaw02.TextDecodes", spec := "textDecodes", inPlace := ["internal/abi.NoEscape"], named := ["unicode/utf8.first", "unicode/utf8.acceptRanges"], apart := false, laid := [("unicode/utf8.acceptRanges", laid_unicode_utf8_acceptRanges), ("unicode/utf8.first", laid_unicode_utf8_first)], narrowed := true }
def TextDecodesUptoSaid : Prop := textDecodesUptoRow.holds Tryd.pinned (OpenSpec.upto textDecodesSpec)

/-- 'tamislaw02.TextSign', WHERE WHAT IT READS IS OF BULK AT MOST 1048576: true; the input reads as it did. -/
def textSignUptoRow : OpenClaim := { program := "ytichfpgamlgocaadoor", sum := "24673cadecb72cfbf3b11f61971e079492262ea4464a635a9ce0b9443e13ff8a", func := "tamis/tamislaw02.TextSign", spec := "textSign", inPlace := ["internal/abi.NoEscape"], named := ["unicode/utf8.first", "unicode/utf8.acceptRanges"], apart := false, laid := [("unicode/utf8.acceptRanges", laid_unicode_utf8_acceptRanges), ("unicode/utf8.first", laid_unicode_utf8_first)], narrowed := true }
def TextSignUptoSaid : Prop := textSignUptoRow.holds Tryd.pinned (OpenSpec.upto textSignSpec)

/-- 'tamislaw02.TextBack', WHERE WHAT IT READS IS OF BULK AT MOST 1048576: true; the input reads as it did. -/
def textBackUptoRow : OpenClaim := { program := "ytichfpgamlgocaadoor", sum := "24673cadecb72cfbf3b11f61971e079492262ea4464a635a9ce0b9443e13ff8a", func := "tamis/tamislaw02.TextBack", spec := "textBack", inPlace := ["internal/abi.NoEscape"], named := ["unicode/utf8.first", "unicode/utf8.acceptRanges"], apart := false, laid := [("unicode/utf8.acceptRanges", laid_unicode_utf8_acceptRanges), ("unicode/utf8.first", laid_unicode_utf8_first)], narrowed := true }
def TextBackUptoSaid : Prop := textBackUptoRow.holds Tryd.pinned (OpenSpec.upto textBackSpec)

/-- 'tamislaw02.TextOnce', WHERE WHAT IT READS IS OF BULK AT MOST 1048576: true; the input reads as it did. -/
def textOnceUptoRow : OpenClaim := { program := "ytichfpgamlgocaadoor", sum := "24673cadecb72cfbf3b11f61971e079492262ea4464a635a9ce0b9443e13ff8a", func := "tamis/tamislaw02.TextOnce", spec := "textOnce", inPlace := ["internal/abi.NoEscape"], named := ["unicode/utf8.first", "unicode/utf8.acceptRanges"], apart := false, laid := [("unicode/utf8.acceptRanges", laid_unicode_utf8_acceptRanges), ("unicode/utf8.first", laid_unicode_utf8_first)], narrowed := true }
def TextOnceUptoSaid : Prop := textOnceUptoRow.holds Tryd.pinned (OpenSpec.upto textOnceSpec)

/-- 'tamislaw02.TextParts', WHERE WHAT IT READS IS OF BULK AT MOST 1048576: true; the input reads as it did. -/
def textPartsUptoRow : OpenClaim := { program := "ytichfpgamlgocaadoor", sum := "24673cadecb72cfbf3b11f61971e079492262ea4464a635a9ce0b9443e13ff8a", func := "tamis/tamislaw02.TextParts", spec := "textParts", inPlace := ["internal/abi.NoEscape"], named := ["unicode/utf8.first", "unicode/utf8.acceptRanges"], apart := false, laid := [("unicode/utf8.acceptRanges", laid_unicode_utf8_acceptRanges), ("unicode/utf8.first", laid_unicode_utf8_first)], narrowed := true }
def TextPartsUptoSaid : Prop := textPartsUptoRow.holds Tryd.pinned (OpenSpec.upto textPartsSpec)

/-- 'tamislaw02.TextPlain', WHERE WHAT IT READS IS OF BULK AT MOST 1048576: true; the input reads as it did. -/
def textPlainUptoRow : OpenClaim := { program := "ytichfpgamlgocaadoor", sum := "24673cadecb72cfbf3b11f61971e079492262ea4464a635a9ce0b9443e13ff8a", func := "tamis/tamislaw02.TextPlain", spec := "textPlain", inPlace := ["internal/abi.NoEscape"], named := ["unicode/utf8.first", "unicode/utf8.acceptRanges"], apart := false, laid := [("unicode/utf8.acceptRanges", laid_unicode_utf8_acceptRanges), ("unicode/utf8.first", laid_unicode_utf8_first)], narrowed := true }
def TextPlainUptoSaid : Prop := textPlainUptoRow.holds Tryd.pinned (OpenSpec.upto textPlainSpec)

/-- 'tamislaw02.TextBroken', WHERE WHAT IT READS IS OF BULK AT MOST 1048576: true; the input reads as it did. -/
def textBrokenUptoRow : OpenClaim := { program := "ytichfpgamlgocaadoor", sum := "24673cadecb72cfbf3b11f61971e079492262ea4464a635a9ce0b9443e13ff8a", func := "tamis/tamislaw02.TextBroken", spec := "textBroken", inPlace := ["internal/abi.NoEscape"], named := ["unicode/utf8.first", "unicode/utf8.acceptRanges"], apart := false, laid := [("unicode/utf8.acceptRanges", laid_unicode_utf8_acceptRanges), ("unicode/utf8.first", laid_unicode_utf8_first)], narrowed := true }
def TextBrokenUptoSaid : Prop := textBrokenUptoRow.holds Tryd.pinned (OpenSpec.upto textBrokenSpec)

end Rows
end Go.Proofs.YtichfpgamlgocaaDoor
