/-
  DERIVED. GIVEN WITH THE SEED: THE CARDS: each row of YtcmpjklkdmpglaaDoorRows.lean that lists a variable, with what it lists TIED to the program's text (the seventh form; the later family's looks); each row that meets fmt, with fmt's text TOLD by the authors' own Lean function (tested against real Go, not proved from fmt's source: count such statements apart). THE CARD IS WHAT COUNTS. Prove the row's statement (the work); the ties are given (YtcmpjklkdmpglaaDoorTie.lean); close each card by the builder's one call (the guide's Derived/Test/ToyasCard.lean, 'card_holds'). Laid BY PROGRAM, IN A SANDBOX (cutbox-door.mjs). By AI agents, Wed Nov 11 2026. No macro, syntax, notation, axiom, sorry.
-/
import Derived.Test.YtcmpjklkdmpglaaDoorRows
import GoSem.ClaimSeven
namespace Go.Proofs.YtcmpjklkdmpglaaDoor
namespace Rows

/-- THE TIED CARD OF 'tamislaw25.EmitTells'. -/
def emitTellsCard : Claim7 := { stood := { row := emitTellsRow, standIns := [], harness := (true, "aafa5cb34c37168f51fc13097a7e693c683b5641e0b939d5c25c63086273abeb"), looks := false }, kinds := [], alts := [], laidByText := true, laidKinds := [.data, .data, .data], laidTests := true, laidLooks := .later }
def EmitTellsCardSaid : Prop := Claim7.holds Tryd.pinned (.plain (OpenSpec.ofChange emitTellsSpec)) emitTellsCard

/-- THE TIED CARD OF 'tamislaw25.EmitParts'. -/
def emitPartsCard : Claim7 := { stood := { row := emitPartsRow, standIns := [], harness := (true, "aafa5cb34c37168f51fc13097a7e693c683b5641e0b939d5c25c63086273abeb"), looks := false }, kinds := [], alts := [], laidByText := true, laidKinds := [.data, .data, .data], laidTests := true, laidLooks := .later }
def EmitPartsCardSaid : Prop := Claim7.holds Tryd.pinned (.plain (OpenSpec.ofChange emitPartsSpec)) emitPartsCard

/-- THE SECOND FORM's CARD OF 'tamislaw25.EmitTells'. -/
def emitTellsUptoCard : Claim7 := { stood := { row := emitTellsUptoRow, standIns := [], harness := (true, "aafa5cb34c37168f51fc13097a7e693c683b5641e0b939d5c25c63086273abeb"), looks := false }, kinds := [], alts := [], laidByText := true, laidKinds := [.data, .data, .data], laidTests := true, laidLooks := .later }
def EmitTellsUptoCardSaid : Prop := Claim7.holds Tryd.pinned (.plain (OpenSpec.upto emitTellsSpec)) emitTellsUptoCard

/-- THE SECOND FORM's CARD OF 'tamislaw25.EmitParts'. -/
def emitPartsUptoCard : Claim7 := { stood := { row := emitPartsUptoRow, standIns := [], harness := (true, "aafa5cb34c37168f51fc13097a7e693c683b5641e0b939d5c25c63086273abeb"), looks := false }, kinds := [], alts := [], laidByText := true, laidKinds := [.data, .data, .data], laidTests := true, laidLooks := .later }
def EmitPartsUptoCardSaid : Prop := Claim7.holds Tryd.pinned (.plain (OpenSpec.upto emitPartsSpec)) emitPartsUptoCard
end Rows
end Go.Proofs.YtcmpjklkdmpglaaDoor
