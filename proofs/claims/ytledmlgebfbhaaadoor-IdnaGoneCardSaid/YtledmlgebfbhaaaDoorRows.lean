/-
  NARROWER THAN 'FOR EVERY INPUT', by the rows' own cells (each row's printed sentence says how): IdnaTells: laid · IdnaMaps: laid · IdnaOnce: laid · IdnaSteps: laid · IdnaLabels: laid · IdnaBack: laid · IdnaGone: laid.
  DERIVED. THE GIVEN ROWS OF THIS SEAT. 7 by the template 'for every input the law returns true; each argument reads behind the call as it read before'; 0 by the template 'total and deterministic' (their statements: YtledmlgebfbhaaaDoorTotals.lean).
  GIVEN WITH THE SEED: the statements are not yours to turn. If you find one false, say at which input.
  Laid BY PROGRAM, IN A SANDBOX (cutbox-rows.mjs): the forced cells as the released guide's own fill.sh prints them over the translation 10307eea57a5c7ce… (all of the seat's roots in one cut). By AI agents, Wed Nov 11 2026. No macro, syntax, notation, axiom, sorry.
-/
import Derived.Test.YtledmlgebfbhaaaDoorChecked
import GoSem.PinnedTables
import GoSem.Claim
import GoSem.ClaimJoined
import GoSem.ClaimMapViews
import Derived.JoinedTies
import Derived.KernelRfl
namespace Go.Proofs.YtledmlgebfbhaaaDoor
/- THE CELL 'sum', in the pinned program and in every row, IS THE sha256 OF THE DUMP (.gsa) THAT YtledmlgebfbhaaaDoorProg.lean LOADS. Nothing in Lean hashes anything: it is a label: what it is worth is what the hold of that sum in a sandbox is worth. -/
noncomputable def Tryd.pinned : Pinned := { name := "ytledmlgebfbhaaadoor", sum := "10307eea57a5c7ce9ffb99db60ba168f2e64747e896045fcff98ee2354c8db3a", checked := Tryd.checked }
namespace Rows
def none {H : Type} : Left H := { results := [], args := [] }

/- WHAT THE LISTED PACKAGE-LEVEL VARIABLES READ AS WHEN THE CALL BEGINS. Each datum BY PROGRAM (the guide's laid-datum.mjs) off the statement by which the dump's own 'gosem.cut.vars' lays the variable. In a bare row this is a premise. The card (YtledmlgebfbhaaaDoorCards.lean) ties it to the program's text. -/
def laid_unicode_utf8_acceptRanges {H : Type} : DataW H := .agg [.agg [.lit (.int .u8 128), .lit (.int .u8 191)], .agg [.lit (.int .u8 160), .lit (.int .u8 191)], .agg [.lit (.int .u8 128), .lit (.int .u8 159)], .agg [.lit (.int .u8 144), .lit (.int .u8 191)], .agg [.lit (.int .u8 128), .lit (.int .u8 143)], .agg [.lit (.int .u8 0), .lit (.int .u8 0)], .agg [.lit (.int .u8 0), .lit (.int .u8 0)], .agg [.lit (.int .u8 0), .lit (.int .u8 0)], .agg [.lit (.int .u8 0), .lit (.int .u8 0)], .agg [.lit (.int .u8 0), .lit (.int .u8 0)], .agg [.lit (.int .u8 0), .lit (.int .u8 0)], .agg [.lit (.int .u8 0), .lit (.int .u8 0)], .agg [.lit (.int .u8 0), .lit (.int .u8 0)], .agg [.lit (.int .u8 0), .lit (.int .u8 0)], .agg [.lit (.int .u8 0), .lit (.int .u8 0)], .agg [.lit (.int .u8 0), .lit (.int .u8 0)]]
/-- One of Go's own tables, pinned by name: the form's constant. -/
def laid_unicode_utf8_first : DataW Unit := Go.Pinned.utf8First

/-- 'tamislaw08.IdnaTells': WHATEVER THE INPUT: true; the input reads as it did. -/
def idnaTellsSpec : ChangeSpec := { name := "idnaTells", fn := fun _ => fun
  | [d1, d2, d3] => { results := [.lit (.bool true)], args := [d1, d2, d3] }
  | _ => none }
def idnaTellsRow : OpenClaim := { program := "ytledmlgebfbhaaadoor", sum := "10307eea57a5c7ce9ffb99db60ba168f2e64747e896045fcff98ee2354c8db3a", func := "tamis/tamislaw08.IdnaTells", spec := "idnaTells", inPlace := ["internal/abi.NoEscape", "internal/bytealg.CountString", "internal/bytealg.IndexByteString", "internal/bytealg.IndexString", "slices.overlaps[int]", "internal/bytealg.MakeNoZero"], named := ["unicode/utf8.first", "unicode/utf8.acceptRanges", "internal/bytealg.MaxLen"], apart := false, laid := [("unicode/utf8.acceptRanges", laid_unicode_utf8_acceptRanges), ("unicode/utf8.first", laid_unicode_utf8_first)] }
def IdnaTellsSaid : Prop := idnaTellsRow.holds Tryd.pinned (OpenSpec.ofChange idnaTellsSpec)

/-- ITS FALSE NEIGHBOUR: 'it returns false'. Refute it at one input. -/
def idnaTellsWrong : ChangeSpec := { name := "idnaTells", fn := fun _ => fun
  | [d1, d2, d3] => { results := [.lit (.bool false)], args := [d1, d2, d3] }
  | _ => none }
def IdnaTellsWrongFalsely : Prop := idnaTellsRow.holds Tryd.pinned (OpenSpec.ofChange idnaTellsWrong)

/-- 'tamislaw08.IdnaMaps': WHATEVER THE INPUT: true; the input reads as it did. -/
def idnaMapsSpec : ChangeSpec := { name := "idnaMaps", fn := fun _ => fun
  | [d] => { results := [.lit (.bool true)], args := [d] }
  | _ => none }
def idnaMapsRow : OpenClaim := { program := "ytledmlgebfbhaaadoor", sum := "10307eea57a5c7ce9ffb99db60ba168f2e64747e896045fcff98ee2354c8db3a", func := "tamis/tamislaw08.IdnaMaps", spec := "idnaMaps", inPlace := ["internal/abi.NoEscape", "internal/bytealg.CountString", "internal/bytealg.IndexByteString", "internal/bytealg.IndexString", "slices.overlaps[int]", "internal/bytealg.MakeNoZero"], named := ["unicode/utf8.first", "unicode/utf8.acceptRanges", "internal/bytealg.MaxLen"], apart := false, laid := [("unicode/utf8.acceptRanges", laid_unicode_utf8_acceptRanges), ("unicode/utf8.first", laid_unicode_utf8_first)] }
def IdnaMapsSaid : Prop := idnaMapsRow.holds Tryd.pinned (OpenSpec.ofChange idnaMapsSpec)

/-- ITS FALSE NEIGHBOUR: 'it returns false'. Refute it at one input. -/
def idnaMapsWrong : ChangeSpec := { name := "idnaMaps", fn := fun _ => fun
  | [d] => { results := [.lit (.bool false)], args := [d] }
  | _ => none }
def IdnaMapsWrongFalsely : Prop := idnaMapsRow.holds Tryd.pinned (OpenSpec.ofChange idnaMapsWrong)

/-- 'tamislaw08.IdnaOnce': WHATEVER THE INPUT: true; the input reads as it did. -/
def idnaOnceSpec : ChangeSpec := { name := "idnaOnce", fn := fun _ => fun
  | [d] => { results := [.lit (.bool true)], args := [d] }
  | _ => none }
def idnaOnceRow : OpenClaim := { program := "ytledmlgebfbhaaadoor", sum := "10307eea57a5c7ce9ffb99db60ba168f2e64747e896045fcff98ee2354c8db3a", func := "tamis/tamislaw08.IdnaOnce", spec := "idnaOnce", inPlace := ["internal/abi.NoEscape", "internal/bytealg.CountString", "internal/bytealg.IndexByteString", "internal/bytealg.IndexString", "slices.overlaps[int]", "internal/bytealg.MakeNoZero"], named := ["unicode/utf8.first", "unicode/utf8.acceptRanges", "internal/bytealg.MaxLen"], apart := false, laid := [("unicode/utf8.acceptRanges", laid_unicode_utf8_acceptRanges), ("unicode/utf8.first", laid_unicode_utf8_first)] }
def IdnaOnceSaid : Prop := idnaOnceRow.holds Tryd.pinned (OpenSpec.ofChange idnaOnceSpec)

/-- ITS FALSE NEIGHBOUR: 'it returns false'. Refute it at one input. -/
def idnaOnceWrong : ChangeSpec := { name := "idnaOnce", fn := fun _ => fun
  | [d] => { results := [.lit (.bool false)], args := [d] }
  | _ => none }
def IdnaOnceWrongFalsely : Prop := idnaOnceRow.holds Tryd.pinned (OpenSpec.ofChange idnaOnceWrong)

/-- 'tamislaw08.IdnaSteps': WHATEVER THE INPUT: true; the input reads as it did. -/
def idnaStepsSpec : ChangeSpec := { name := "idnaSteps", fn := fun _ => fun
  | [d] => { results := [.lit (.bool true)], args := [d] }
  | _ => none }
def idnaStepsRow : OpenClaim := { program := "ytledmlgebfbhaaadoor", sum := "10307eea57a5c7ce9ffb99db60ba168f2e64747e896045fcff98ee2354c8db3a", func := "tamis/tamislaw08.IdnaSteps", spec := "idnaSteps", inPlace := ["internal/abi.NoEscape", "internal/bytealg.CountString", "internal/bytealg.IndexByteString", "internal/bytealg.IndexString", "slices.overlaps[int]", "internal/bytealg.MakeNoZero"], named := ["unicode/utf8.first", "unicode/utf8.acceptRanges", "internal/bytealg.MaxLen"], apart := false, laid := [("unicode/utf8.acceptRanges", laid_unicode_utf8_acceptRanges), ("unicode/utf8.first", laid_unicode_utf8_first)] }
def IdnaStepsSaid : Prop := idnaStepsRow.holds Tryd.pinned (OpenSpec.ofChange idnaStepsSpec)

/-- ITS FALSE NEIGHBOUR: 'it returns false'. Refute it at one input. -/
def idnaStepsWrong : ChangeSpec := { name := "idnaSteps", fn := fun _ => fun
  | [d] => { results := [.lit (.bool false)], args := [d] }
  | _ => none }
def IdnaStepsWrongFalsely : Prop := idnaStepsRow.holds Tryd.pinned (OpenSpec.ofChange idnaStepsWrong)

/-- 'tamislaw08.IdnaLabels': WHATEVER THE INPUT: true; the input reads as it did. -/
def idnaLabelsSpec : ChangeSpec := { name := "idnaLabels", fn := fun _ => fun
  | [d1, d2] => { results := [.lit (.bool true)], args := [d1, d2] }
  | _ => none }
def idnaLabelsRow : OpenClaim := { program := "ytledmlgebfbhaaadoor", sum := "10307eea57a5c7ce9ffb99db60ba168f2e64747e896045fcff98ee2354c8db3a", func := "tamis/tamislaw08.IdnaLabels", spec := "idnaLabels", inPlace := ["internal/abi.NoEscape", "internal/bytealg.CountString", "internal/bytealg.IndexByteString", "internal/bytealg.IndexString", "slices.overlaps[int]", "internal/bytealg.MakeNoZero"], named := ["unicode/utf8.first", "unicode/utf8.acceptRanges", "internal/bytealg.MaxLen"], apart := false, laid := [("unicode/utf8.acceptRanges", laid_unicode_utf8_acceptRanges), ("unicode/utf8.first", laid_unicode_utf8_first)] }
def IdnaLabelsSaid : Prop := idnaLabelsRow.holds Tryd.pinned (OpenSpec.ofChange idnaLabelsSpec)

/-- ITS FALSE NEIGHBOUR: 'it returns false'. Refute it at one input. -/
def idnaLabelsWrong : ChangeSpec := { name := "idnaLabels", fn := fun _ => fun
  | [d1, d2] => { results := [.lit (.bool false)], args := [d1, d2] }
  | _ => none }
def IdnaLabelsWrongFalsely : Prop := idnaLabelsRow.holds Tryd.pinned (OpenSpec.ofChange idnaLabelsWrong)

/-- 'tamislaw08.IdnaBack': WHATEVER THE INPUT: true; the input reads as it did. -/
def idnaBackSpec : ChangeSpec := { name := "idnaBack", fn := fun _ => fun
  | [d] => { results := [.lit (.bool true)], args := [d] }
  | _ => none }
def idnaBackRow : OpenClaim := { program := "ytledmlgebfbhaaadoor", sum := "10307eea57a5c7ce9ffb99db60ba168f2e64747e896045fcff98ee2354c8db3a", func := "tamis/tamislaw08.IdnaBack", spec := "idnaBack", inPlace := ["internal/abi.NoEscape", "internal/bytealg.CountString", "internal/bytealg.IndexByteString", "internal/bytealg.IndexString", "slices.overlaps[int]", "internal/bytealg.MakeNoZero"], named := ["unicode/utf8.first", "unicode/utf8.acceptRanges", "internal/bytealg.MaxLen"], apart := false, laid := [("unicode/utf8.acceptRanges", laid_unicode_utf8_acceptRanges), ("unicode/utf8.first", laid_unicode_utf8_first)] }
def IdnaBackSaid : Prop := idnaBackRow.holds Tryd.pinned (OpenSpec.ofChange idnaBackSpec)

/-- ITS FALSE NEIGHBOUR: 'it returns false'. Refute it at one input. -/
def idnaBackWrong : ChangeSpec := { name := "idnaBack", fn := fun _ => fun
  | [d] => { results := [.lit (.bool false)], args := [d] }
  | _ => none }
def IdnaBackWrongFalsely : Prop := idnaBackRow.holds Tryd.pinned (OpenSpec.ofChange idnaBackWrong)

/-- 'tamislaw08.IdnaGone': WHATEVER THE INPUT: true; the input reads as it did. -/
def idnaGoneSpec : ChangeSpec := { name := "idnaGone", fn := fun _ => fun
  | [d1, d2, d3] => { results := [.lit (.bool true)], args := [d1, d2, d3] }
  | _ => none }
def idnaGoneRow : OpenClaim := { program := "ytledmlgebfbhaaadoor", sum := "10307eea57a5c7ce9ffb99db60ba168f2e64747e896045fcff98ee2354c8db3a", func := "tamis/tamislaw08.IdnaGone", spec := "idnaGone", inPlace := ["internal/abi.NoEscape", "internal/bytealg.CountString", "internal/bytealg.IndexByteString", "internal/bytealg.IndexString", "slices.overlaps[int]", "internal/bytealg.MakeNoZero"], named := ["unicode/utf8.first", "unicode/utf8.acceptRanges", "internal/bytealg.MaxLen"], apart := false, laid := [("unicode/utf8.acceptRanges", laid_unicode_utf8_acceptRanges), ("unicode/utf8.first", laid_unicode_utf8_first)] }
def IdnaGoneSaid : Prop := idnaGoneRow.holds Tryd.pinned (OpenSpec.ofChange idnaGoneSpec)

/-- ITS FALSE NEIGHBOUR: 'it returns false'. Refute it at one input. -/
def idnaGoneWrong : ChangeSpec := { name := "idnaGone", fn := fun _ => fun
  | [d1, d2, d3] => { results := [.lit (.bool false)], args := [d1, d2, d3] }
  | _ => none }
def IdnaGoneWrongFalsely : Prop := idnaGoneRow.holds Tryd.pinned (OpenSpec.ofChange idnaGoneWrong)

/- THE SECOND FORM. 'bulk': how many values and letters a reading holds, each counted each time it is reached (what is shared counts as often as it is met; a slice's spare places count too). A statement '..UptoSaid' is the law's where the arguments, and the package variables that the reading takes, are together of bulk at most 1048576: NARROWER than '..Said'. Prove '..Said' where nothing that the law and all that it calls make is longer than what came in: it says more and counts as full. Else prove '..UptoSaid'. A law counts once. -/
mutual
def uptoBulk {H : Type} : DataW H → Nat
  | .lit (.string bytes) => bytes.length + 1
  | .lit _ => 1
  | .nil => 1
  | .ptr d => uptoBulk d + 1
  | .slice elems spare => uptoBulkAll elems + uptoBulkAll spare + 1
  | .agg parts => uptoBulkAll parts + 1
  | .iface _ d => uptoBulk d + 1
  | .map entries => uptoBulkEntries entries + 1
  | .held _ => 1
def uptoBulkAll {H : Type} : List (DataW H) → Nat
  | [] => 0
  | d :: r => uptoBulk d + uptoBulkAll r
def uptoBulkEntries {H : Type} : List (Lit × DataW H) → Nat
  | [] => 0
  | x :: r => uptoBulkEntry x + uptoBulkEntries r
def uptoBulkEntry {H : Type} : Lit × DataW H → Nat
  | (.string bytes, d) => bytes.length + uptoBulk d + 1
  | (_, d) => uptoBulk d + 1
 end
def uptoSmall : (H : Type) → List (DataW H) → Bool := fun _ ds => decide (uptoBulkAll ds ≤ 1048576)
def OpenSpec.upto (s : _root_.Go.ChangeSpec) : _root_.Go.OpenSpec := { _root_.Go.OpenSpec.ofChange s with cond := some uptoSmall }

/-- 'tamislaw08.IdnaTells', WHERE WHAT IT READS IS OF BULK AT MOST 1048576: true; the input reads as it did. -/
def idnaTellsUptoRow : OpenClaim := { program := "ytledmlgebfbhaaadoor", sum := "10307eea57a5c7ce9ffb99db60ba168f2e64747e896045fcff98ee2354c8db3a", func := "tamis/tamislaw08.IdnaTells", spec := "idnaTells", inPlace := ["internal/abi.NoEscape", "internal/bytealg.CountString", "internal/bytealg.IndexByteString", "internal/bytealg.IndexString", "slices.overlaps[int]", "internal/bytealg.MakeNoZero"], named := ["unicode/utf8.first", "unicode/utf8.acceptRanges", "internal/bytealg.MaxLen"], apart := false, laid := [("unicode/utf8.acceptRanges", laid_unicode_utf8_acceptRanges), ("unicode/utf8.first", laid_unicode_utf8_first)], narrowed := true }
def IdnaTellsUptoSaid : Prop := idnaTellsUptoRow.holds Tryd.pinned (OpenSpec.upto idnaTellsSpec)

/-- 'tamislaw08.IdnaMaps', WHERE WHAT IT READS IS OF BULK AT MOST 1048576: true; the input reads as it did. -/
def idnaMapsUptoRow : OpenClaim := { program := "ytledmlgebfbhaaadoor", sum := "10307eea57a5c7ce9ffb99db60ba168f2e64747e896045fcff98ee2354c8db3a", func := "tamis/tamislaw08.IdnaMaps", spec := "idnaMaps", inPlace := ["internal/abi.NoEscape", "internal/bytealg.CountString", "internal/bytealg.IndexByteString", "internal/bytealg.IndexString", "slices.overlaps[int]", "internal/bytealg.MakeNoZero"], named := ["unicode/utf8.first", "unicode/utf8.acceptRanges", "internal/bytealg.MaxLen"], apart := false, laid := [("unicode/utf8.acceptRanges", laid_unicode_utf8_acceptRanges), ("unicode/utf8.first", laid_unicode_utf8_first)], narrowed := true }
def IdnaMapsUptoSaid : Prop := idnaMapsUptoRow.holds Tryd.pinned (OpenSpec.upto idnaMapsSpec)

/-- 'tamislaw08.IdnaOnce', WHERE WHAT IT READS IS OF BULK AT MOST 1048576: true; the input reads as it did. -/
def idnaOnceUptoRow : OpenClaim := { program := "ytledmlgebfbhaaadoor", sum := "10307eea57a5c7ce9ffb99db60ba168f2e64747e896045fcff98ee2354c8db3a", func := "tamis/tamislaw08.IdnaOnce", spec := "idnaOnce", inPlace := ["internal/abi.NoEscape", "internal/bytealg.CountString", "internal/bytealg.IndexByteString", "internal/bytealg.IndexString", "slices.overlaps[int]", "internal/bytealg.MakeNoZero"], named := ["unicode/utf8.first", "unicode/utf8.acceptRanges", "internal/bytealg.MaxLen"], apart := false, laid := [("unicode/utf8.acceptRanges", laid_unicode_utf8_acceptRanges), ("unicode/utf8.first", laid_unicode_utf8_first)], narrowed := true }
def IdnaOnceUptoSaid : Prop := idnaOnceUptoRow.holds Tryd.pinned (OpenSpec.upto idnaOnceSpec)

/-- 'tamislaw08.IdnaSteps', WHERE WHAT IT READS IS OF BULK AT MOST 1048576: true; the input reads as it did. -/
def idnaStepsUptoRow : OpenClaim := { program := "ytledmlgebfbhaaadoor", sum := "10307eea57a5c7ce9ffb99db60ba168f2e64747e896045fcff98ee2354c8db3a", func := "tamis/tamislaw08.IdnaSteps", spec := "idnaSteps", inPlace := ["internal/abi.NoEscape", "internal/bytealg.CountString", "internal/bytealg.IndexByteString", "internal/bytealg.IndexString", "slices.overlaps[int]", "internal/bytealg.MakeNoZero"], named := ["unicode/utf8.first", "unicode/utf8.acceptRanges", "internal/bytealg.MaxLen"], apart := false, laid := [("unicode/utf8.acceptRanges", laid_unicode_utf8_acceptRanges), ("unicode/utf8.first", laid_unicode_utf8_first)], narrowed := true }
def IdnaStepsUptoSaid : Prop := idnaStepsUptoRow.holds Tryd.pinned (OpenSpec.upto idnaStepsSpec)

/-- 'tamislaw08.IdnaLabels', WHERE WHAT IT READS IS OF BULK AT MOST 1048576: true; the input reads as it did. -/
def idnaLabelsUptoRow : OpenClaim := { program := "ytledmlgebfbhaaadoor", sum := "10307eea57a5c7ce9ffb99db60ba168f2e64747e896045fcff98ee2354c8db3a", func := "tamis/tamislaw08.IdnaLabels", spec := "idnaLabels", inPlace := ["internal/abi.NoEscape", "internal/bytealg.CountString", "internal/bytealg.IndexByteString", "internal/bytealg.IndexString", "slices.overlaps[int]", "internal/bytealg.MakeNoZero"], named := ["unicode/utf8.first", "unicode/utf8.acceptRanges", "internal/bytealg.MaxLen"], apart := false, laid := [("unicode/utf8.acceptRanges", laid_unicode_utf8_acceptRanges), ("unicode/utf8.first", laid_unicode_utf8_first)], narrowed := true }
def IdnaLabelsUptoSaid : Prop := idnaLabelsUptoRow.holds Tryd.pinned (OpenSpec.upto idnaLabelsSpec)

/-- 'tamislaw08.IdnaBack', WHERE WHAT IT READS IS OF BULK AT MOST 1048576: true; the input reads as it did. -/
def idnaBackUptoRow : OpenClaim := { program := "ytledmlgebfbhaaadoor", sum := "10307eea57a5c7ce9ffb99db60ba168f2e64747e896045fcff98ee2354c8db3a", func := "tamis/tamislaw08.IdnaBack", spec := "idnaBack", inPlace := ["internal/abi.NoEscape", "internal/bytealg.CountString", "internal/bytealg.IndexByteString", "internal/bytealg.IndexString", "slices.overlaps[int]", "internal/bytealg.MakeNoZero"], named := ["unicode/utf8.first", "unicode/utf8.acceptRanges", "internal/bytealg.MaxLen"], apart := false, laid := [("unicode/utf8.acceptRanges", laid_unicode_utf8_acceptRanges), ("unicode/utf8.first", laid_unicode_utf8_first)], narrowed := true }
def IdnaBackUptoSaid : Prop := idnaBackUptoRow.holds Tryd.pinned (OpenSpec.upto idnaBackSpec)

/-- 'tamislaw08.IdnaGone', WHERE WHAT IT READS IS OF BULK AT MOST 1048576: true; the input reads as it did. -/
def idnaGoneUptoRow : OpenClaim := { program := "ytledmlgebfbhaaadoor", sum := "10307eea57a5c7ce9ffb99db60ba168f2e64747e896045fcff98ee2354c8db3a", func := "tamis/tamislaw08.IdnaGone", spec := "idnaGone", inPlace := ["internal/abi.NoEscape", "internal/bytealg.CountString", "internal/bytealg.IndexByteString", "internal/bytealg.IndexString", "slices.overlaps[int]", "internal/bytealg.MakeNoZero"], named := ["unicode/utf8.first", "unicode/utf8.acceptRanges", "internal/bytealg.MaxLen"], apart := false, laid := [("unicode/utf8.acceptRanges", laid_unicode_utf8_acceptRanges), ("unicode/utf8.first", laid_unicode_utf8_first)], narrowed := true }
def IdnaGoneUptoSaid : Prop := idnaGoneUptoRow.holds Tryd.pinned (OpenSpec.upto idnaGoneSpec)

end Rows
end Go.Proofs.YtledmlgebfbhaaaDoor
