/-
  DERIVED. GIVEN WITH THE SEED: THE CARDS: each row of YtpbnfjdkdfombaaGreatDoorRows.lean that lists a variable, with what it lists TIED to the program's text (the seventh form; the later family's looks); each row that meets fmt, with fmt's text TOLD by the authors' own Lean function (tested against real Go, not proved from fmt's source: count such statements apart). THE CARD IS WHAT COUNTS. Prove the row's statement (the work); the ties are given (YtpbnfjdkdfombaaGreatDoorTie.lean); close each card by the builder's one call (the guide's Derived/Test/ToyasCard.lean, 'card_holds'). Laid BY PROGRAM, IN A SANDBOX (cutbox-door.mjs). By AI agents, Wed Nov 11 2026. No macro, syntax, notation, axiom, sorry.
-/
import Derived.Test.YtpbnfjdkdfombaaGreatDoorRows
import GoSem.ClaimSeven
namespace Go.Proofs.YtpbnfjdkdfombaaGreatDoor
namespace Rows

/-- THE TIED CARD OF 'tamislaw26.FilterSafe'. -/
def filterSafeCard : Claim7 := { stood := { row := filterSafeRow, standIns := [], harness := (true, "ccc5ff0165d92ef1aa30d506d71e5f958c1a7191a1a85ff70bdfbf850ed0b7c0"), looks := false }, kinds := [], alts := [], laidByText := true, laidKinds := [.data, .data, .data, .data, .pinned], laidTests := true, laidLooks := .later }
def FilterSafeCardSaid : Prop := Claim7.holds Tryz.pinned (.plain (OpenSpec.ofChange filterSafeSpec)) filterSafeCard

/-- THE TIED CARD OF 'tamislaw26.FilterOther'. -/
def filterOtherCard : Claim7 := { stood := { row := filterOtherRow, standIns := [], harness := (true, "ccc5ff0165d92ef1aa30d506d71e5f958c1a7191a1a85ff70bdfbf850ed0b7c0"), looks := false }, kinds := [], alts := [], laidByText := true, laidKinds := [.data, .data, .data, .data, .pinned], laidTests := true, laidLooks := .later }
def FilterOtherCardSaid : Prop := Claim7.holds Tryz.pinned (.plain (OpenSpec.ofChange filterOtherSpec)) filterOtherCard

/-- THE TIED CARD OF 'tamislaw26.FilterMore'. -/
def filterMoreCard : Claim7 := { stood := { row := filterMoreRow, standIns := [], harness := (true, "ccc5ff0165d92ef1aa30d506d71e5f958c1a7191a1a85ff70bdfbf850ed0b7c0"), looks := false }, kinds := [], alts := [], laidByText := true, laidKinds := [.data, .data, .data, .data, .pinned], laidTests := true, laidLooks := .later }
def FilterMoreCardSaid : Prop := Claim7.holds Tryz.pinned (.plain (OpenSpec.ofChange filterMoreSpec)) filterMoreCard

/-- THE TIED CARD OF 'tamislaw26.FilterCoded'. -/
def filterCodedCard : Claim7 := { stood := { row := filterCodedRow, standIns := [], harness := (true, "ccc5ff0165d92ef1aa30d506d71e5f958c1a7191a1a85ff70bdfbf850ed0b7c0"), looks := false }, kinds := [], alts := [], laidByText := true, laidKinds := [.data, .data, .data, .data, .pinned], laidTests := true, laidLooks := .later }
def FilterCodedCardSaid : Prop := Claim7.holds Tryz.pinned (.plain (OpenSpec.ofChange filterCodedSpec)) filterCodedCard

/-- THE TIED CARD OF 'tamislaw26.FilterAgain'. -/
def filterAgainCard : Claim7 := { stood := { row := filterAgainRow, standIns := [], harness := (true, "ccc5ff0165d92ef1aa30d506d71e5f958c1a7191a1a85ff70bdfbf850ed0b7c0"), looks := false }, kinds := [], alts := [], laidByText := true, laidKinds := [.data, .data, .data, .data, .pinned], laidTests := true, laidLooks := .later }
def FilterAgainCardSaid : Prop := Claim7.holds Tryz.pinned (.plain (OpenSpec.ofChange filterAgainSpec)) filterAgainCard

/-- THE SECOND FORM's CARD OF 'tamislaw26.FilterSafe'. -/
def filterSafeUptoCard : Claim7 := { stood := { row := filterSafeUptoRow, standIns := [], harness := (true, "ccc5ff0165d92ef1aa30d506d71e5f958c1a7191a1a85ff70bdfbf850ed0b7c0"), looks := false }, kinds := [], alts := [], laidByText := true, laidKinds := [.data, .data, .data, .data, .pinned], laidTests := true, laidLooks := .later }
def FilterSafeUptoCardSaid : Prop := Claim7.holds Tryz.pinned (.plain (OpenSpec.upto filterSafeSpec)) filterSafeUptoCard

/-- THE SECOND FORM's CARD OF 'tamislaw26.FilterOther'. -/
def filterOtherUptoCard : Claim7 := { stood := { row := filterOtherUptoRow, standIns := [], harness := (true, "ccc5ff0165d92ef1aa30d506d71e5f958c1a7191a1a85ff70bdfbf850ed0b7c0"), looks := false }, kinds := [], alts := [], laidByText := true, laidKinds := [.data, .data, .data, .data, .pinned], laidTests := true, laidLooks := .later }
def FilterOtherUptoCardSaid : Prop := Claim7.holds Tryz.pinned (.plain (OpenSpec.upto filterOtherSpec)) filterOtherUptoCard

/-- THE SECOND FORM's CARD OF 'tamislaw26.FilterMore'. -/
def filterMoreUptoCard : Claim7 := { stood := { row := filterMoreUptoRow, standIns := [], harness := (true, "ccc5ff0165d92ef1aa30d506d71e5f958c1a7191a1a85ff70bdfbf850ed0b7c0"), looks := false }, kinds := [], alts := [], laidByText := true, laidKinds := [.data, .data, .data, .data, .pinned], laidTests := true, laidLooks := .later }
def FilterMoreUptoCardSaid : Prop := Claim7.holds Tryz.pinned (.plain (OpenSpec.upto filterMoreSpec)) filterMoreUptoCard

/-- THE SECOND FORM's CARD OF 'tamislaw26.FilterCoded'. -/
def filterCodedUptoCard : Claim7 := { stood := { row := filterCodedUptoRow, standIns := [], harness := (true, "ccc5ff0165d92ef1aa30d506d71e5f958c1a7191a1a85ff70bdfbf850ed0b7c0"), looks := false }, kinds := [], alts := [], laidByText := true, laidKinds := [.data, .data, .data, .data, .pinned], laidTests := true, laidLooks := .later }
def FilterCodedUptoCardSaid : Prop := Claim7.holds Tryz.pinned (.plain (OpenSpec.upto filterCodedSpec)) filterCodedUptoCard

/-- THE SECOND FORM's CARD OF 'tamislaw26.FilterAgain'. -/
def filterAgainUptoCard : Claim7 := { stood := { row := filterAgainUptoRow, standIns := [], harness := (true, "ccc5ff0165d92ef1aa30d506d71e5f958c1a7191a1a85ff70bdfbf850ed0b7c0"), looks := false }, kinds := [], alts := [], laidByText := true, laidKinds := [.data, .data, .data, .data, .pinned], laidTests := true, laidLooks := .later }
def FilterAgainUptoCardSaid : Prop := Claim7.holds Tryz.pinned (.plain (OpenSpec.upto filterAgainSpec)) filterAgainUptoCard
end Rows
end Go.Proofs.YtpbnfjdkdfombaaGreatDoor
