/-
  DERIVED. GIVEN WITH THE SEED: THE CARDS: each row of YtmndlfglgcioeaaGreatDoorRows.lean that lists a variable, with what it lists TIED to the program's text (the seventh form; the later family's looks); each row that meets fmt, with fmt's text TOLD by the authors' own Lean function (tested against real Go, not proved from fmt's source: count such statements apart). THE CARD IS WHAT COUNTS. Prove the row's statement (the work); the ties are given (YtmndlfglgcioeaaGreatDoorTie.lean); close each card by the builder's one call (the guide's Derived/Test/ToyasCard.lean, 'card_holds'). Laid BY PROGRAM, IN A SANDBOX (cutbox-door.mjs). By AI agents, Wed Nov 11 2026. No macro, syntax, notation, axiom, sorry.
-/
import Derived.Test.YtmndlfglgcioeaaGreatDoorRows
import GoSem.ClaimSeven
namespace Go.Proofs.YtmndlfglgcioeaaGreatDoor
namespace Rows

/-- THE TIED CARD OF 'tamislaw24.ReadsOne'. -/
def readsOneCard : Claim7 := { stood := { row := readsOneRow, standIns := [], harness := (true, "8894b79a5c8bd9a1952e7cb77184e4ac0edbfc2ea5035aec6e3b54a259b5a6be"), looks := false }, kinds := [], alts := [], laidByText := true, laidKinds := [.data, .pinned], laidTests := true, laidLooks := .later }
def ReadsOneCardSaid : Prop := Claim7.holds Tryz.pinned (.plain (OpenSpec.ofChange readsOneSpec)) readsOneCard

/-- THE TIED CARD OF 'tamislaw24.ReadsRefresh'. -/
def readsRefreshCard : Claim7 := { stood := { row := readsRefreshRow, standIns := [], harness := (true, "8894b79a5c8bd9a1952e7cb77184e4ac0edbfc2ea5035aec6e3b54a259b5a6be"), looks := false }, kinds := [], alts := [], laidByText := true, laidKinds := [.data, .pinned], laidTests := true, laidLooks := .later }
def ReadsRefreshCardSaid : Prop := Claim7.holds Tryz.pinned (.plain (OpenSpec.ofChange readsRefreshSpec)) readsRefreshCard

/-- THE TIED CARD OF 'tamislaw24.ReadsCoded'. -/
def readsCodedCard : Claim7 := { stood := { row := readsCodedRow, standIns := [], harness := (true, "8894b79a5c8bd9a1952e7cb77184e4ac0edbfc2ea5035aec6e3b54a259b5a6be"), looks := false }, kinds := [], alts := [], laidByText := true, laidKinds := [.data, .pinned], laidTests := true, laidLooks := .later }
def ReadsCodedCardSaid : Prop := Claim7.holds Tryz.pinned (.plain (OpenSpec.ofChange readsCodedSpec)) readsCodedCard

/-- THE TIED CARD OF 'tamislaw24.ReadsEscaped'. -/
def readsEscapedCard : Claim7 := { stood := { row := readsEscapedRow, standIns := [], harness := (true, "8894b79a5c8bd9a1952e7cb77184e4ac0edbfc2ea5035aec6e3b54a259b5a6be"), looks := false }, kinds := [], alts := [], laidByText := true, laidKinds := [.data, .pinned], laidTests := true, laidLooks := .later }
def ReadsEscapedCardSaid : Prop := Claim7.holds Tryz.pinned (.plain (OpenSpec.ofChange readsEscapedSpec)) readsEscapedCard

/-- THE TIED CARD OF 'tamislaw24.ReadsPlain'. -/
def readsPlainCard : Claim7 := { stood := { row := readsPlainRow, standIns := [], harness := (true, "8894b79a5c8bd9a1952e7cb77184e4ac0edbfc2ea5035aec6e3b54a259b5a6be"), looks := false }, kinds := [], alts := [], laidByText := true, laidKinds := [.data, .pinned], laidTests := true, laidLooks := .later }
def ReadsPlainCardSaid : Prop := Claim7.holds Tryz.pinned (.plain (OpenSpec.ofChange readsPlainSpec)) readsPlainCard

/-- THE TIED CARD OF 'tamislaw25.EmitBack'. -/
def emitBackCard : Claim7 := { stood := { row := emitBackRow, standIns := [], harness := (true, "8894b79a5c8bd9a1952e7cb77184e4ac0edbfc2ea5035aec6e3b54a259b5a6be"), looks := false }, kinds := [], alts := [], laidByText := true, laidKinds := [.data, .data, .data, .data, .pinned], laidTests := true, laidLooks := .later }
def EmitBackCardSaid : Prop := Claim7.holds Tryz.pinned (.plain (OpenSpec.ofChange emitBackSpec)) emitBackCard

/-- THE SECOND FORM's CARD OF 'tamislaw24.ReadsOne'. -/
def readsOneUptoCard : Claim7 := { stood := { row := readsOneUptoRow, standIns := [], harness := (true, "8894b79a5c8bd9a1952e7cb77184e4ac0edbfc2ea5035aec6e3b54a259b5a6be"), looks := false }, kinds := [], alts := [], laidByText := true, laidKinds := [.data, .pinned], laidTests := true, laidLooks := .later }
def ReadsOneUptoCardSaid : Prop := Claim7.holds Tryz.pinned (.plain (OpenSpec.upto readsOneSpec)) readsOneUptoCard

/-- THE SECOND FORM's CARD OF 'tamislaw24.ReadsRefresh'. -/
def readsRefreshUptoCard : Claim7 := { stood := { row := readsRefreshUptoRow, standIns := [], harness := (true, "8894b79a5c8bd9a1952e7cb77184e4ac0edbfc2ea5035aec6e3b54a259b5a6be"), looks := false }, kinds := [], alts := [], laidByText := true, laidKinds := [.data, .pinned], laidTests := true, laidLooks := .later }
def ReadsRefreshUptoCardSaid : Prop := Claim7.holds Tryz.pinned (.plain (OpenSpec.upto readsRefreshSpec)) readsRefreshUptoCard

/-- THE SECOND FORM's CARD OF 'tamislaw24.ReadsCoded'. -/
def readsCodedUptoCard : Claim7 := { stood := { row := readsCodedUptoRow, standIns := [], harness := (true, "8894b79a5c8bd9a1952e7cb77184e4ac0edbfc2ea5035aec6e3b54a259b5a6be"), looks := false }, kinds := [], alts := [], laidByText := true, laidKinds := [.data, .pinned], laidTests := true, laidLooks := .later }
def ReadsCodedUptoCardSaid : Prop := Claim7.holds Tryz.pinned (.plain (OpenSpec.upto readsCodedSpec)) readsCodedUptoCard

/-- THE SECOND FORM's CARD OF 'tamislaw24.ReadsEscaped'. -/
def readsEscapedUptoCard : Claim7 := { stood := { row := readsEscapedUptoRow, standIns := [], harness := (true, "8894b79a5c8bd9a1952e7cb77184e4ac0edbfc2ea5035aec6e3b54a259b5a6be"), looks := false }, kinds := [], alts := [], laidByText := true, laidKinds := [.data, .pinned], laidTests := true, laidLooks := .later }
def ReadsEscapedUptoCardSaid : Prop := Claim7.holds Tryz.pinned (.plain (OpenSpec.upto readsEscapedSpec)) readsEscapedUptoCard

/-- THE SECOND FORM's CARD OF 'tamislaw24.ReadsPlain'. -/
def readsPlainUptoCard : Claim7 := { stood := { row := readsPlainUptoRow, standIns := [], harness := (true, "8894b79a5c8bd9a1952e7cb77184e4ac0edbfc2ea5035aec6e3b54a259b5a6be"), looks := false }, kinds := [], alts := [], laidByText := true, laidKinds := [.data, .pinned], laidTests := true, laidLooks := .later }
def ReadsPlainUptoCardSaid : Prop := Claim7.holds Tryz.pinned (.plain (OpenSpec.upto readsPlainSpec)) readsPlainUptoCard

/-- THE SECOND FORM's CARD OF 'tamislaw25.EmitBack'. -/
def emitBackUptoCard : Claim7 := { stood := { row := emitBackUptoRow, standIns := [], harness := (true, "8894b79a5c8bd9a1952e7cb77184e4ac0edbfc2ea5035aec6e3b54a259b5a6be"), looks := false }, kinds := [], alts := [], laidByText := true, laidKinds := [.data, .data, .data, .data, .pinned], laidTests := true, laidLooks := .later }
def EmitBackUptoCardSaid : Prop := Claim7.holds Tryz.pinned (.plain (OpenSpec.upto emitBackSpec)) emitBackUptoCard
end Rows
end Go.Proofs.YtmndlfglgcioeaaGreatDoor
