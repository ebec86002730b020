/-
  DERIVED. GIVEN WITH THE SEED: THE CARDS: each row of YtjgenpooedkfmaaGreatDoorRows.lean that lists a variable, with what it lists TIED to the program's text (the seventh form; the later family's looks); each row that meets fmt, with fmt's text TOLD by the authors' own Lean function (tested against real Go, not proved from fmt's source: count such statements apart). THE CARD IS WHAT COUNTS. Prove the row's statement (the work); the ties are given (YtjgenpooedkfmaaGreatDoorTie.lean); close each card by the builder's one call (the guide's Derived/Test/ToyasCard.lean, 'card_holds'). Laid BY PROGRAM, IN A SANDBOX (cutbox-door.mjs). By AI agents, Wed Nov 11 2026. No macro, syntax, notation, axiom, sorry.
-/
import Derived.Test.YtjgenpooedkfmaaGreatDoorRows
import GoSem.ClaimSeven
namespace Go.Proofs.YtjgenpooedkfmaaGreatDoor
namespace Rows

/-- THE TIED CARD OF 'tamislaw15.AuthorityBack'. -/
def authorityBackCard : Claim7 := { stood := { row := authorityBackRow, standIns := [], harness := (true, "19866e22bbff9ef0cabea175a9c26e2d9eed30941dba50a2ec53141da8cf71a2"), looks := false }, kinds := [], alts := [], laidByText := true, laidKinds := [.data, .data, .data, .data, .pinned], laidTests := true, laidLooks := .later }
def AuthorityBackCardSaid : Prop := Claim7.holds Tryz.pinned (.plain (OpenSpec.ofChange authorityBackSpec)) authorityBackCard

/-- THE TIED CARD OF 'tamislaw17.ParseForms'. -/
def parseFormsCard : Claim7 := { stood := { row := parseFormsRow, standIns := [], harness := (true, "19866e22bbff9ef0cabea175a9c26e2d9eed30941dba50a2ec53141da8cf71a2"), looks := false }, kinds := [], alts := [], laidByText := true, laidKinds := [.data, .data, .data, .data, .pinned], laidTests := true, laidLooks := .later }
def ParseFormsCardSaid : Prop := Claim7.holds Tryz.pinned (.plain (OpenSpec.ofChange parseFormsSpec)) parseFormsCard

/-- THE TIED CARD OF 'tamislaw17.ParseParts'. -/
def parsePartsCard : Claim7 := { stood := { row := parsePartsRow, standIns := [], harness := (true, "19866e22bbff9ef0cabea175a9c26e2d9eed30941dba50a2ec53141da8cf71a2"), looks := false }, kinds := [], alts := [], laidByText := true, laidKinds := [.data, .data, .data, .data, .pinned], laidTests := true, laidLooks := .later }
def ParsePartsCardSaid : Prop := Claim7.holds Tryz.pinned (.plain (OpenSpec.ofChange parsePartsSpec)) parsePartsCard

/-- THE TIED CARD OF 'tamislaw17.ParseKinds'. -/
def parseKindsCard : Claim7 := { stood := { row := parseKindsRow, standIns := [], harness := (true, "19866e22bbff9ef0cabea175a9c26e2d9eed30941dba50a2ec53141da8cf71a2"), looks := false }, kinds := [], alts := [], laidByText := true, laidKinds := [.data, .data, .data, .data, .pinned], laidTests := true, laidLooks := .later }
def ParseKindsCardSaid : Prop := Claim7.holds Tryz.pinned (.plain (OpenSpec.ofChange parseKindsSpec)) parseKindsCard

/-- THE TIED CARD OF 'tamislaw17.ParseApart'. -/
def parseApartCard : Claim7 := { stood := { row := parseApartRow, standIns := [], harness := (true, "19866e22bbff9ef0cabea175a9c26e2d9eed30941dba50a2ec53141da8cf71a2"), looks := false }, kinds := [], alts := [], laidByText := true, laidKinds := [.data, .data, .data, .data, .pinned], laidTests := true, laidLooks := .later }
def ParseApartCardSaid : Prop := Claim7.holds Tryz.pinned (.plain (OpenSpec.ofChange parseApartSpec)) parseApartCard

/-- THE TIED CARD OF 'tamislaw17.ParseDots'. -/
def parseDotsCard : Claim7 := { stood := { row := parseDotsRow, standIns := [], harness := (true, "19866e22bbff9ef0cabea175a9c26e2d9eed30941dba50a2ec53141da8cf71a2"), looks := false }, kinds := [], alts := [], laidByText := true, laidKinds := [.data, .data, .data, .data, .pinned], laidTests := true, laidLooks := .later }
def ParseDotsCardSaid : Prop := Claim7.holds Tryz.pinned (.plain (OpenSpec.ofChange parseDotsSpec)) parseDotsCard

/-- THE SECOND FORM's CARD OF 'tamislaw15.AuthorityBack'. -/
def authorityBackUptoCard : Claim7 := { stood := { row := authorityBackUptoRow, standIns := [], harness := (true, "19866e22bbff9ef0cabea175a9c26e2d9eed30941dba50a2ec53141da8cf71a2"), looks := false }, kinds := [], alts := [], laidByText := true, laidKinds := [.data, .data, .data, .data, .pinned], laidTests := true, laidLooks := .later }
def AuthorityBackUptoCardSaid : Prop := Claim7.holds Tryz.pinned (.plain (OpenSpec.upto authorityBackSpec)) authorityBackUptoCard

/-- THE SECOND FORM's CARD OF 'tamislaw17.ParseForms'. -/
def parseFormsUptoCard : Claim7 := { stood := { row := parseFormsUptoRow, standIns := [], harness := (true, "19866e22bbff9ef0cabea175a9c26e2d9eed30941dba50a2ec53141da8cf71a2"), looks := false }, kinds := [], alts := [], laidByText := true, laidKinds := [.data, .data, .data, .data, .pinned], laidTests := true, laidLooks := .later }
def ParseFormsUptoCardSaid : Prop := Claim7.holds Tryz.pinned (.plain (OpenSpec.upto parseFormsSpec)) parseFormsUptoCard

/-- THE SECOND FORM's CARD OF 'tamislaw17.ParseParts'. -/
def parsePartsUptoCard : Claim7 := { stood := { row := parsePartsUptoRow, standIns := [], harness := (true, "19866e22bbff9ef0cabea175a9c26e2d9eed30941dba50a2ec53141da8cf71a2"), looks := false }, kinds := [], alts := [], laidByText := true, laidKinds := [.data, .data, .data, .data, .pinned], laidTests := true, laidLooks := .later }
def ParsePartsUptoCardSaid : Prop := Claim7.holds Tryz.pinned (.plain (OpenSpec.upto parsePartsSpec)) parsePartsUptoCard

/-- THE SECOND FORM's CARD OF 'tamislaw17.ParseKinds'. -/
def parseKindsUptoCard : Claim7 := { stood := { row := parseKindsUptoRow, standIns := [], harness := (true, "19866e22bbff9ef0cabea175a9c26e2d9eed30941dba50a2ec53141da8cf71a2"), looks := false }, kinds := [], alts := [], laidByText := true, laidKinds := [.data, .data, .data, .data, .pinned], laidTests := true, laidLooks := .later }
def ParseKindsUptoCardSaid : Prop := Claim7.holds Tryz.pinned (.plain (OpenSpec.upto parseKindsSpec)) parseKindsUptoCard

/-- THE SECOND FORM's CARD OF 'tamislaw17.ParseApart'. -/
def parseApartUptoCard : Claim7 := { stood := { row := parseApartUptoRow, standIns := [], harness := (true, "19866e22bbff9ef0cabea175a9c26e2d9eed30941dba50a2ec53141da8cf71a2"), looks := false }, kinds := [], alts := [], laidByText := true, laidKinds := [.data, .data, .data, .data, .pinned], laidTests := true, laidLooks := .later }
def ParseApartUptoCardSaid : Prop := Claim7.holds Tryz.pinned (.plain (OpenSpec.upto parseApartSpec)) parseApartUptoCard

/-- THE SECOND FORM's CARD OF 'tamislaw17.ParseDots'. -/
def parseDotsUptoCard : Claim7 := { stood := { row := parseDotsUptoRow, standIns := [], harness := (true, "19866e22bbff9ef0cabea175a9c26e2d9eed30941dba50a2ec53141da8cf71a2"), looks := false }, kinds := [], alts := [], laidByText := true, laidKinds := [.data, .data, .data, .data, .pinned], laidTests := true, laidLooks := .later }
def ParseDotsUptoCardSaid : Prop := Claim7.holds Tryz.pinned (.plain (OpenSpec.upto parseDotsSpec)) parseDotsUptoCard
end Rows
end Go.Proofs.YtjgenpooedkfmaaGreatDoor
