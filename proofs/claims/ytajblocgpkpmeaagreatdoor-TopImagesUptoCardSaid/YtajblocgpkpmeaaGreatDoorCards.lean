/-
  DERIVED. GIVEN WITH THE SEED: THE CARDS: each row of YtajblocgpkpmeaaGreatDoorRows.lean that lists a variable, with what it lists TIED to the program's text (the seventh form; the later family's looks); each row that meets fmt, with fmt's text TOLD by the authors' own Lean function (tested against real Go, not proved from fmt's source: count such statements apart). THE CARD IS WHAT COUNTS. Prove the row's statement (the work); the ties are given (YtajblocgpkpmeaaGreatDoorTie.lean); close each card by the builder's one call (the guide's Derived/Test/ToyasCard.lean, 'card_holds'). Laid BY PROGRAM, IN A SANDBOX (cutbox-door.mjs). By AI agents, Wed Nov 11 2026. No macro, syntax, notation, axiom, sorry.
-/
import Derived.Test.YtajblocgpkpmeaaGreatDoorRows
import GoSem.ClaimSeven
namespace Go.Proofs.YtajblocgpkpmeaaGreatDoor
namespace Rows

/-- THE TIED CARD OF 'tamistop.TopLists'. -/
def topListsCard : Claim7 := { stood := { row := topListsRow, standIns := [], harness := (true, "b3a1e80b0227c7950602aa392c88f79f00fb4fa61f464231d012a6ec6e227ee0"), looks := false }, kinds := [], alts := [], laidByText := true, laidKinds := [.data, .data, .data, .data, .pinned], laidTests := true, laidLooks := .later }
def TopListsCardSaid : Prop := Claim7.holds Tryz.pinned (.plain (OpenSpec.ofChange topListsSpec)) topListsCard

/-- THE TIED CARD OF 'tamistop.TopSame'. -/
def topSameCard : Claim7 := { stood := { row := topSameRow, standIns := [], harness := (true, "b3a1e80b0227c7950602aa392c88f79f00fb4fa61f464231d012a6ec6e227ee0"), looks := false }, kinds := [], alts := [], laidByText := true, laidKinds := [.data, .data, .data, .data, .pinned], laidTests := true, laidLooks := .later }
def TopSameCardSaid : Prop := Claim7.holds Tryz.pinned (.plain (OpenSpec.ofChange topSameSpec)) topSameCard

/-- THE TIED CARD OF 'tamistop.TopImages'. -/
def topImagesCard : Claim7 := { stood := { row := topImagesRow, standIns := [], harness := (true, "b3a1e80b0227c7950602aa392c88f79f00fb4fa61f464231d012a6ec6e227ee0"), looks := false }, kinds := [], alts := [], laidByText := true, laidKinds := [.data, .data, .data, .data, .pinned], laidTests := true, laidLooks := .later }
def TopImagesCardSaid : Prop := Claim7.holds Tryz.pinned (.plain (OpenSpec.ofChange topImagesSpec)) topImagesCard

/-- THE TIED CARD OF 'tamislaw26.FilterKeeps'. -/
def filterKeepsCard : Claim7 := { stood := { row := filterKeepsRow, standIns := [], harness := (true, "b3a1e80b0227c7950602aa392c88f79f00fb4fa61f464231d012a6ec6e227ee0"), looks := false }, kinds := [], alts := [], laidByText := true, laidKinds := [.data, .data, .data, .data, .pinned], laidTests := true, laidLooks := .later }
def FilterKeepsCardSaid : Prop := Claim7.holds Tryz.pinned (.plain (OpenSpec.ofChange filterKeepsSpec)) filterKeepsCard

/-- THE SECOND FORM's CARD OF 'tamistop.TopLists'. -/
def topListsUptoCard : Claim7 := { stood := { row := topListsUptoRow, standIns := [], harness := (true, "b3a1e80b0227c7950602aa392c88f79f00fb4fa61f464231d012a6ec6e227ee0"), looks := false }, kinds := [], alts := [], laidByText := true, laidKinds := [.data, .data, .data, .data, .pinned], laidTests := true, laidLooks := .later }
def TopListsUptoCardSaid : Prop := Claim7.holds Tryz.pinned (.plain (OpenSpec.upto topListsSpec)) topListsUptoCard

/-- THE SECOND FORM's CARD OF 'tamistop.TopSame'. -/
def topSameUptoCard : Claim7 := { stood := { row := topSameUptoRow, standIns := [], harness := (true, "b3a1e80b0227c7950602aa392c88f79f00fb4fa61f464231d012a6ec6e227ee0"), looks := false }, kinds := [], alts := [], laidByText := true, laidKinds := [.data, .data, .data, .data, .pinned], laidTests := true, laidLooks := .later }
def TopSameUptoCardSaid : Prop := Claim7.holds Tryz.pinned (.plain (OpenSpec.upto topSameSpec)) topSameUptoCard

/-- THE SECOND FORM's CARD OF 'tamistop.TopImages'. -/
def topImagesUptoCard : Claim7 := { stood := { row := topImagesUptoRow, standIns := [], harness := (true, "b3a1e80b0227c7950602aa392c88f79f00fb4fa61f464231d012a6ec6e227ee0"), looks := false }, kinds := [], alts := [], laidByText := true, laidKinds := [.data, .data, .data, .data, .pinned], laidTests := true, laidLooks := .later }
def TopImagesUptoCardSaid : Prop := Claim7.holds Tryz.pinned (.plain (OpenSpec.upto topImagesSpec)) topImagesUptoCard

/-- THE SECOND FORM's CARD OF 'tamislaw26.FilterKeeps'. -/
def filterKeepsUptoCard : Claim7 := { stood := { row := filterKeepsUptoRow, standIns := [], harness := (true, "b3a1e80b0227c7950602aa392c88f79f00fb4fa61f464231d012a6ec6e227ee0"), looks := false }, kinds := [], alts := [], laidByText := true, laidKinds := [.data, .data, .data, .data, .pinned], laidTests := true, laidLooks := .later }
def FilterKeepsUptoCardSaid : Prop := Claim7.holds Tryz.pinned (.plain (OpenSpec.upto filterKeepsSpec)) filterKeepsUptoCard
end Rows
end Go.Proofs.YtajblocgpkpmeaaGreatDoor
