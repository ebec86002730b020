/-
  DERIVED. GIVEN WITH THE SEED: THE CARDS: each row of YtpckaimpjccjhaaGreatDoorRows.lean that lists a variable, with what it lists TIED to the program's text (the seventh form; the later family's looks); each row that meets fmt, with fmt's text TOLD by the authors' own Lean function (tested against real Go, not proved from fmt's source: count such statements apart). THE CARD IS WHAT COUNTS. Prove the row's statement (the work); the ties are given (YtpckaimpjccjhaaGreatDoorTie.lean); close each card by the builder's one call (the guide's Derived/Test/ToyasCard.lean, 'card_holds'). Laid BY PROGRAM, IN A SANDBOX (cutbox-door.mjs). By AI agents, Wed Nov 11 2026. No macro, syntax, notation, axiom, sorry.
-/
import Derived.Test.YtpckaimpjccjhaaGreatDoorRows
import GoSem.ClaimSeven
namespace Go.Proofs.YtpckaimpjccjhaaGreatDoor
namespace Rows

/-- THE TIED CARD OF 'tamislaw17.ParseForms'. -/
def parseFormsCard : Claim7 := { stood := { row := parseFormsRow, standIns := [], harness := (true, "0ad146f96190204354d64057a3d669d0d29a774063397c1591168ad9685dfdfa"), looks := false }, kinds := [], alts := [], laidByText := true, laidKinds := [.data, .data, .data, .data, .pinned], laidTests := true, laidLooks := .later }
def ParseFormsCardSaid : Prop := Claim7.holds Tryz.pinned (.plain (OpenSpec.ofChange parseFormsSpec)) parseFormsCard

/-- THE TIED CARD OF 'tamislaw17.ParseParts'. -/
def parsePartsCard : Claim7 := { stood := { row := parsePartsRow, standIns := [], harness := (true, "0ad146f96190204354d64057a3d669d0d29a774063397c1591168ad9685dfdfa"), looks := false }, kinds := [], alts := [], laidByText := true, laidKinds := [.data, .data, .data, .data, .pinned], laidTests := true, laidLooks := .later }
def ParsePartsCardSaid : Prop := Claim7.holds Tryz.pinned (.plain (OpenSpec.ofChange parsePartsSpec)) parsePartsCard

/-- THE TIED CARD OF 'tamislaw17.ParseKinds'. -/
def parseKindsCard : Claim7 := { stood := { row := parseKindsRow, standIns := [], harness := (true, "0ad146f96190204354d64057a3d669d0d29a774063397c1591168ad9685dfdfa"), looks := false }, kinds := [], alts := [], laidByText := true, laidKinds := [.data, .data, .data, .data, .pinned], laidTests := true, laidLooks := .later }
def ParseKindsCardSaid : Prop := Claim7.holds Tryz.pinned (.plain (OpenSpec.ofChange parseKindsSpec)) parseKindsCard

/-- THE TIED CARD OF 'tamislaw17.ParseDots'. -/
def parseDotsCard : Claim7 := { stood := { row := parseDotsRow, standIns := [], harness := (true, "0ad146f96190204354d64057a3d669d0d29a774063397c1591168ad9685dfdfa"), looks := false }, kinds := [], alts := [], laidByText := true, laidKinds := [.data, .data, .data, .data, .pinned], laidTests := true, laidLooks := .later }
def ParseDotsCardSaid : Prop := Claim7.holds Tryz.pinned (.plain (OpenSpec.ofChange parseDotsSpec)) parseDotsCard

/-- THE TIED CARD OF 'tamislaw24.ReadsOne'. -/
def readsOneCard : Claim7 := { stood := { row := readsOneRow, standIns := [], harness := (true, "0ad146f96190204354d64057a3d669d0d29a774063397c1591168ad9685dfdfa"), looks := false }, kinds := [], alts := [], laidByText := true, laidKinds := [.data, .pinned], laidTests := true, laidLooks := .later }
def ReadsOneCardSaid : Prop := Claim7.holds Tryz.pinned (.plain (OpenSpec.ofChange readsOneSpec)) readsOneCard

/-- THE TIED CARD OF 'tamislaw24.ReadsRefresh'. -/
def readsRefreshCard : Claim7 := { stood := { row := readsRefreshRow, standIns := [], harness := (true, "0ad146f96190204354d64057a3d669d0d29a774063397c1591168ad9685dfdfa"), looks := false }, kinds := [], alts := [], laidByText := true, laidKinds := [.data, .pinned], laidTests := true, laidLooks := .later }
def ReadsRefreshCardSaid : Prop := Claim7.holds Tryz.pinned (.plain (OpenSpec.ofChange readsRefreshSpec)) readsRefreshCard

/-- THE TIED CARD OF 'tamislaw24.ReadsCoded'. -/
def readsCodedCard : Claim7 := { stood := { row := readsCodedRow, standIns := [], harness := (true, "0ad146f96190204354d64057a3d669d0d29a774063397c1591168ad9685dfdfa"), looks := false }, kinds := [], alts := [], laidByText := true, laidKinds := [.data, .pinned], laidTests := true, laidLooks := .later }
def ReadsCodedCardSaid : Prop := Claim7.holds Tryz.pinned (.plain (OpenSpec.ofChange readsCodedSpec)) readsCodedCard

/-- THE TIED CARD OF 'tamislaw24.ReadsEscaped'. -/
def readsEscapedCard : Claim7 := { stood := { row := readsEscapedRow, standIns := [], harness := (true, "0ad146f96190204354d64057a3d669d0d29a774063397c1591168ad9685dfdfa"), looks := false }, kinds := [], alts := [], laidByText := true, laidKinds := [.data, .pinned], laidTests := true, laidLooks := .later }
def ReadsEscapedCardSaid : Prop := Claim7.holds Tryz.pinned (.plain (OpenSpec.ofChange readsEscapedSpec)) readsEscapedCard

/-- THE TIED CARD OF 'tamislaw24.ReadsPlain'. -/
def readsPlainCard : Claim7 := { stood := { row := readsPlainRow, standIns := [], harness := (true, "0ad146f96190204354d64057a3d669d0d29a774063397c1591168ad9685dfdfa"), looks := false }, kinds := [], alts := [], laidByText := true, laidKinds := [.data, .pinned], laidTests := true, laidLooks := .later }
def ReadsPlainCardSaid : Prop := Claim7.holds Tryz.pinned (.plain (OpenSpec.ofChange readsPlainSpec)) readsPlainCard

/-- THE TIED CARD OF 'tamislaw25.EmitFits'. -/
def emitFitsCard : Claim7 := { stood := { row := emitFitsRow, standIns := [], harness := (true, "0ad146f96190204354d64057a3d669d0d29a774063397c1591168ad9685dfdfa"), looks := false }, kinds := [], alts := [], laidByText := true, laidKinds := [.data, .data, .data, .data, .pinned], laidTests := true, laidLooks := .later }
def EmitFitsCardSaid : Prop := Claim7.holds Tryz.pinned (.plain (OpenSpec.ofChange emitFitsSpec)) emitFitsCard

/-- THE TIED CARD OF 'tamislaw25.EmitBack'. -/
def emitBackCard : Claim7 := { stood := { row := emitBackRow, standIns := [], harness := (true, "0ad146f96190204354d64057a3d669d0d29a774063397c1591168ad9685dfdfa"), looks := false }, kinds := [], alts := [], laidByText := true, laidKinds := [.data, .data, .data, .data, .pinned], laidTests := true, laidLooks := .later }
def EmitBackCardSaid : Prop := Claim7.holds Tryz.pinned (.plain (OpenSpec.ofChange emitBackSpec)) emitBackCard

/-- THE SECOND FORM's CARD OF 'tamislaw17.ParseForms'. -/
def parseFormsUptoCard : Claim7 := { stood := { row := parseFormsUptoRow, standIns := [], harness := (true, "0ad146f96190204354d64057a3d669d0d29a774063397c1591168ad9685dfdfa"), looks := false }, kinds := [], alts := [], laidByText := true, laidKinds := [.data, .data, .data, .data, .pinned], laidTests := true, laidLooks := .later }
def ParseFormsUptoCardSaid : Prop := Claim7.holds Tryz.pinned (.plain (OpenSpec.upto parseFormsSpec)) parseFormsUptoCard

/-- THE SECOND FORM's CARD OF 'tamislaw17.ParseParts'. -/
def parsePartsUptoCard : Claim7 := { stood := { row := parsePartsUptoRow, standIns := [], harness := (true, "0ad146f96190204354d64057a3d669d0d29a774063397c1591168ad9685dfdfa"), looks := false }, kinds := [], alts := [], laidByText := true, laidKinds := [.data, .data, .data, .data, .pinned], laidTests := true, laidLooks := .later }
def ParsePartsUptoCardSaid : Prop := Claim7.holds Tryz.pinned (.plain (OpenSpec.upto parsePartsSpec)) parsePartsUptoCard

/-- THE SECOND FORM's CARD OF 'tamislaw17.ParseKinds'. -/
def parseKindsUptoCard : Claim7 := { stood := { row := parseKindsUptoRow, standIns := [], harness := (true, "0ad146f96190204354d64057a3d669d0d29a774063397c1591168ad9685dfdfa"), looks := false }, kinds := [], alts := [], laidByText := true, laidKinds := [.data, .data, .data, .data, .pinned], laidTests := true, laidLooks := .later }
def ParseKindsUptoCardSaid : Prop := Claim7.holds Tryz.pinned (.plain (OpenSpec.upto parseKindsSpec)) parseKindsUptoCard

/-- THE SECOND FORM's CARD OF 'tamislaw17.ParseDots'. -/
def parseDotsUptoCard : Claim7 := { stood := { row := parseDotsUptoRow, standIns := [], harness := (true, "0ad146f96190204354d64057a3d669d0d29a774063397c1591168ad9685dfdfa"), looks := false }, kinds := [], alts := [], laidByText := true, laidKinds := [.data, .data, .data, .data, .pinned], laidTests := true, laidLooks := .later }
def ParseDotsUptoCardSaid : Prop := Claim7.holds Tryz.pinned (.plain (OpenSpec.upto parseDotsSpec)) parseDotsUptoCard

/-- THE SECOND FORM's CARD OF 'tamislaw24.ReadsOne'. -/
def readsOneUptoCard : Claim7 := { stood := { row := readsOneUptoRow, standIns := [], harness := (true, "0ad146f96190204354d64057a3d669d0d29a774063397c1591168ad9685dfdfa"), looks := false }, kinds := [], alts := [], laidByText := true, laidKinds := [.data, .pinned], laidTests := true, laidLooks := .later }
def ReadsOneUptoCardSaid : Prop := Claim7.holds Tryz.pinned (.plain (OpenSpec.upto readsOneSpec)) readsOneUptoCard

/-- THE SECOND FORM's CARD OF 'tamislaw24.ReadsRefresh'. -/
def readsRefreshUptoCard : Claim7 := { stood := { row := readsRefreshUptoRow, standIns := [], harness := (true, "0ad146f96190204354d64057a3d669d0d29a774063397c1591168ad9685dfdfa"), looks := false }, kinds := [], alts := [], laidByText := true, laidKinds := [.data, .pinned], laidTests := true, laidLooks := .later }
def ReadsRefreshUptoCardSaid : Prop := Claim7.holds Tryz.pinned (.plain (OpenSpec.upto readsRefreshSpec)) readsRefreshUptoCard

/-- THE SECOND FORM's CARD OF 'tamislaw24.ReadsCoded'. -/
def readsCodedUptoCard : Claim7 := { stood := { row := readsCodedUptoRow, standIns := [], harness := (true, "0ad146f96190204354d64057a3d669d0d29a774063397c1591168ad9685dfdfa"), looks := false }, kinds := [], alts := [], laidByText := true, laidKinds := [.data, .pinned], laidTests := true, laidLooks := .later }
def ReadsCodedUptoCardSaid : Prop := Claim7.holds Tryz.pinned (.plain (OpenSpec.upto readsCodedSpec)) readsCodedUptoCard

/-- THE SECOND FORM's CARD OF 'tamislaw24.ReadsEscaped'. -/
def readsEscapedUptoCard : Claim7 := { stood := { row := readsEscapedUptoRow, standIns := [], harness := (true, "0ad146f96190204354d64057a3d669d0d29a774063397c1591168ad9685dfdfa"), looks := false }, kinds := [], alts := [], laidByText := true, laidKinds := [.data, .pinned], laidTests := true, laidLooks := .later }
def ReadsEscapedUptoCardSaid : Prop := Claim7.holds Tryz.pinned (.plain (OpenSpec.upto readsEscapedSpec)) readsEscapedUptoCard

/-- THE SECOND FORM's CARD OF 'tamislaw24.ReadsPlain'. -/
def readsPlainUptoCard : Claim7 := { stood := { row := readsPlainUptoRow, standIns := [], harness := (true, "0ad146f96190204354d64057a3d669d0d29a774063397c1591168ad9685dfdfa"), looks := false }, kinds := [], alts := [], laidByText := true, laidKinds := [.data, .pinned], laidTests := true, laidLooks := .later }
def ReadsPlainUptoCardSaid : Prop := Claim7.holds Tryz.pinned (.plain (OpenSpec.upto readsPlainSpec)) readsPlainUptoCard

/-- THE SECOND FORM's CARD OF 'tamislaw25.EmitFits'. -/
def emitFitsUptoCard : Claim7 := { stood := { row := emitFitsUptoRow, standIns := [], harness := (true, "0ad146f96190204354d64057a3d669d0d29a774063397c1591168ad9685dfdfa"), looks := false }, kinds := [], alts := [], laidByText := true, laidKinds := [.data, .data, .data, .data, .pinned], laidTests := true, laidLooks := .later }
def EmitFitsUptoCardSaid : Prop := Claim7.holds Tryz.pinned (.plain (OpenSpec.upto emitFitsSpec)) emitFitsUptoCard

/-- THE SECOND FORM's CARD OF 'tamislaw25.EmitBack'. -/
def emitBackUptoCard : Claim7 := { stood := { row := emitBackUptoRow, standIns := [], harness := (true, "0ad146f96190204354d64057a3d669d0d29a774063397c1591168ad9685dfdfa"), looks := false }, kinds := [], alts := [], laidByText := true, laidKinds := [.data, .data, .data, .data, .pinned], laidTests := true, laidLooks := .later }
def EmitBackUptoCardSaid : Prop := Claim7.holds Tryz.pinned (.plain (OpenSpec.upto emitBackSpec)) emitBackUptoCard
end Rows
end Go.Proofs.YtpckaimpjccjhaaGreatDoor
