/-
  DERIVED. GIVEN WITH THE SEED: THE CARDS: each row of YtagfilhbpnjhkaaGreatDoorRows.lean that lists a variable, with what it lists TIED to the program's text (the seventh form; the later family's looks); each row that meets fmt, with fmt's text TOLD by the authors' own Lean function (tested against real Go, not proved from fmt's source: count such statements apart). THE CARD IS WHAT COUNTS. Prove the row's statement (the work); the ties are given (YtagfilhbpnjhkaaGreatDoorTie.lean); close each card by the builder's one call (the guide's Derived/Test/ToyasCard.lean, 'card_holds'). Laid BY PROGRAM, IN A SANDBOX (cutbox-door.mjs). By AI agents, Wed Nov 11 2026. No macro, syntax, notation, axiom, sorry.
-/
import Derived.Test.YtagfilhbpnjhkaaGreatDoorRows
import GoSem.ClaimSeven
namespace Go.Proofs.YtagfilhbpnjhkaaGreatDoor
namespace Rows

/-- THE TIED CARD OF 'tamistop.TopSame'. -/
def topSameCard : Claim7 := { stood := { row := topSameRow, standIns := [], harness := (true, "5ed00af0d65fac6019d58d7dcf44452076b48ed93255050aaea78882a149bb9c"), looks := false }, kinds := [], alts := [], laidByText := true, laidKinds := [.data, .data, .data, .data, .pinned], laidTests := true, laidLooks := .later }
def TopSameCardSaid : Prop := Claim7.holds Tryz.pinned (.plain (OpenSpec.ofChange topSameSpec)) topSameCard

/-- THE SECOND FORM's CARD OF 'tamistop.TopSame'. -/
def topSameUptoCard : Claim7 := { stood := { row := topSameUptoRow, standIns := [], harness := (true, "5ed00af0d65fac6019d58d7dcf44452076b48ed93255050aaea78882a149bb9c"), looks := false }, kinds := [], alts := [], laidByText := true, laidKinds := [.data, .data, .data, .data, .pinned], laidTests := true, laidLooks := .later }
def TopSameUptoCardSaid : Prop := Claim7.holds Tryz.pinned (.plain (OpenSpec.upto topSameSpec)) topSameUptoCard
end Rows
end Go.Proofs.YtagfilhbpnjhkaaGreatDoor
