/-
  DERIVED. GIVEN WITH THE SEED: THE CARDS: each row of YtichfpgamlgocaaDoorRows.lean that lists a variable, with what it lists TIED to the program's text (the seventh form; the later family's looks); each row that meets fmt, with fmt's text TOLD by the authors' own Lean function (tested against real Go, not proved from fmt's source: count such statements apart). THE CARD IS WHAT COUNTS. Prove the row's statement (the work); the ties are given (YtichfpgamlgocaaDoorTie.lean); close each card by the builder's one call (the guide's Derived/Test/ToyasCard.lean, 'card_holds'). Laid BY PROGRAM, IN A SANDBOX (cutbox-door.mjs). By AI agents, Wed Nov 11 2026. No macro, syntax, notation, axiom, sorry.
-/
import Derived.Test.YtichfpgamlgocaaDoorRows
import GoSem.ClaimSeven
namespace Go.Proofs.YtichfpgamlgocaaDoor
namespace Rows

/-- THE TIED CARD OF 'tamislaw02.TextDecodes'. -/
def textDecodesCard : Claim7 := { stood := { row := textDecodesRow, standIns := [], harness := (true, "a1c4a62a5dca12d82e3a2978262239cce4cda89e8b58403c89755673f888e848"), looks := false }, kinds := [], alts := [], laidByText := true, laidKinds := [.data, .pinned], laidTests := true, laidLooks := .later }
def TextDecodesCardSaid : Prop := Claim7.holds Tryd.pinned (.plain (OpenSpec.ofChange textDecodesSpec)) textDecodesCard

/-- THE TIED CARD OF 'tamislaw02.TextSign'. -/
def textSignCard : Claim7 := { stood := { row := textSignRow, standIns := [], harness := (true, "a1c4a62a5dca12d82e3a2978262239cce4cda89e8b58403c89755673f888e848"), looks := false }, kinds := [], alts := [], laidByText := true, laidKinds := [.data, .pinned], laidTests := true, laidLooks := .later }
def TextSignCardSaid : Prop := Claim7.holds Tryd.pinned (.plain (OpenSpec.ofChange textSignSpec)) textSignCard

/-- THE TIED CARD OF 'tamislaw02.TextBack'. -/
def textBackCard : Claim7 := { stood := { row := textBackRow, standIns := [], harness := (true, "a1c4a62a5dca12d82e3a2978262239cce4cda89e8b58403c89755673f888e848"), looks := false }, kinds := [], alts := [], laidByText := true, laidKinds := [.data, .pinned], laidTests := true, laidLooks := .later }
def TextBackCardSaid : Prop := Claim7.holds Tryd.pinned (.plain (OpenSpec.ofChange textBackSpec)) textBackCard

/-- THE TIED CARD OF 'tamislaw02.TextOnce'. -/
def textOnceCard : Claim7 := { stood := { row := textOnceRow, standIns := [], harness := (true, "a1c4a62a5dca12d82e3a2978262239cce4cda89e8b58403c89755673f888e848"), looks := false }, kinds := [], alts := [], laidByText := true, laidKinds := [.data, .pinned], laidTests := true, laidLooks := .later }
def TextOnceCardSaid : Prop := Claim7.holds Tryd.pinned (.plain (OpenSpec.ofChange textOnceSpec)) textOnceCard

/-- THE TIED CARD OF 'tamislaw02.TextParts'. -/
def textPartsCard : Claim7 := { stood := { row := textPartsRow, standIns := [], harness := (true, "a1c4a62a5dca12d82e3a2978262239cce4cda89e8b58403c89755673f888e848"), looks := false }, kinds := [], alts := [], laidByText := true, laidKinds := [.data, .pinned], laidTests := true, laidLooks := .later }
def TextPartsCardSaid : Prop := Claim7.holds Tryd.pinned (.plain (OpenSpec.ofChange textPartsSpec)) textPartsCard

/-- THE TIED CARD OF 'tamislaw02.TextPlain'. -/
def textPlainCard : Claim7 := { stood := { row := textPlainRow, standIns := [], harness := (true, "a1c4a62a5dca12d82e3a2978262239cce4cda89e8b58403c89755673f888e848"), looks := false }, kinds := [], alts := [], laidByText := true, laidKinds := [.data, .pinned], laidTests := true, laidLooks := .later }
def TextPlainCardSaid : Prop := Claim7.holds Tryd.pinned (.plain (OpenSpec.ofChange textPlainSpec)) textPlainCard

/-- THE TIED CARD OF 'tamislaw02.TextBroken'. -/
def textBrokenCard : Claim7 := { stood := { row := textBrokenRow, standIns := [], harness := (true, "a1c4a62a5dca12d82e3a2978262239cce4cda89e8b58403c89755673f888e848"), looks := false }, kinds := [], alts := [], laidByText := true, laidKinds := [.data, .pinned], laidTests := true, laidLooks := .later }
def TextBrokenCardSaid : Prop := Claim7.holds Tryd.pinned (.plain (OpenSpec.ofChange textBrokenSpec)) textBrokenCard

/-- THE SECOND FORM's CARD OF 'tamislaw02.TextDecodes'. -/
def textDecodesUptoCard : Claim7 := { stood := { row := textDecodesUptoRow, standIns := [], harness := (true, "a1c4a62a5dca12d82e3a2978262239cce4cda89e8b58403c89755673f888e848"), looks := false }, kinds := [], alts := [], laidByText := true, laidKinds := [.data, .pinned], laidTests := true, laidLooks := .later }
def TextDecodesUptoCardSaid : Prop := Claim7.holds Tryd.pinned (.plain (OpenSpec.upto textDecodesSpec)) textDecodesUptoCard

/-- THE SECOND FORM's CARD OF 'tamislaw02.TextSign'. -/
def textSignUptoCard : Claim7 := { stood := { row := textSignUptoRow, standIns := [], harness := (true, "a1c4a62a5dca12d82e3a2978262239cce4cda89e8b58403c89755673f888e848"), looks := false }, kinds := [], alts := [], laidByText := true, laidKinds := [.data, .pinned], laidTests := true, laidLooks := .later }
def TextSignUptoCardSaid : Prop := Claim7.holds Tryd.pinned (.plain (OpenSpec.upto textSignSpec)) textSignUptoCard

/-- THE SECOND FORM's CARD OF 'tamislaw02.TextBack'. -/
def textBackUptoCard : Claim7 := { stood := { row := textBackUptoRow, standIns := [], harness := (true, "a1c4a62a5dca12d82e3a2978262239cce4cda89e8b58403c89755673f888e848"), looks := false }, kinds := [], alts := [], laidByText := true, laidKinds := [.data, .pinned], laidTests := true, laidLooks := .later }
def TextBackUptoCardSaid : Prop := Claim7.holds Tryd.pinned (.plain (OpenSpec.upto textBackSpec)) textBackUptoCard

/-- THE SECOND FORM's CARD OF 'tamislaw02.TextOnce'. -/
def textOnceUptoCard : Claim7 := { stood := { row := textOnceUptoRow, standIns := [], harness := (true, "a1c4a62a5dca12d82e3a2978262239cce4cda89e8b58403c89755673f888e848"), looks := false }, kinds := [], alts := [], laidByText := true, laidKinds := [.data, .pinned], laidTests := true, laidLooks := .later }
def TextOnceUptoCardSaid : Prop := Claim7.holds Tryd.pinned (.plain (OpenSpec.upto textOnceSpec)) textOnceUptoCard

/-- THE SECOND FORM's CARD OF 'tamislaw02.TextParts'. -/
def textPartsUptoCard : Claim7 := { stood := { row := textPartsUptoRow, standIns := [], harness := (true, "a1c4a62a5dca12d82e3a2978262239cce4cda89e8b58403c89755673f888e848"), looks := false }, kinds := [], alts := [], laidByText := true, laidKinds := [.data, .pinned], laidTests := true, laidLooks := .later }
def TextPartsUptoCardSaid : Prop := Claim7.holds Tryd.pinned (.plain (OpenSpec.upto textPartsSpec)) textPartsUptoCard

/-- THE SECOND FORM's CARD OF 'tamislaw02.TextPlain'. -/
def textPlainUptoCard : Claim7 := { stood := { row := textPlainUptoRow, standIns := [], harness := (true, "a1c4a62a5dca12d82e3a2978262239cce4cda89e8b58403c89755673f888e848"), looks := false }, kinds := [], alts := [], laidByText := true, laidKinds := [.data, .pinned], laidTests := true, laidLooks := .later }
def TextPlainUptoCardSaid : Prop := Claim7.holds Tryd.pinned (.plain (OpenSpec.upto textPlainSpec)) textPlainUptoCard

/-- THE SECOND FORM's CARD OF 'tamislaw02.TextBroken'. -/
def textBrokenUptoCard : Claim7 := { stood := { row := textBrokenUptoRow, standIns := [], harness := (true, "a1c4a62a5dca12d82e3a2978262239cce4cda89e8b58403c89755673f888e848"), looks := false }, kinds := [], alts := [], laidByText := true, laidKinds := [.data, .pinned], laidTests := true, laidLooks := .later }
def TextBrokenUptoCardSaid : Prop := Claim7.holds Tryd.pinned (.plain (OpenSpec.upto textBrokenSpec)) textBrokenUptoCard
end Rows
end Go.Proofs.YtichfpgamlgocaaDoor
