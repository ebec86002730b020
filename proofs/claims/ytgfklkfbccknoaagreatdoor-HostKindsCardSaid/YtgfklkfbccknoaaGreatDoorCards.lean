/-
  DERIVED. GIVEN WITH THE SEED: THE CARDS: each row of YtgfklkfbccknoaaGreatDoorRows.lean that lists a variable, with what it lists TIED to the program's text (the seventh form; the later family's looks); each row that meets fmt, with fmt's text TOLD by the authors' own Lean function (tested against real Go, not proved from fmt's source: count such statements apart). THE CARD IS WHAT COUNTS. Prove the row's statement (the work); the ties are given (YtgfklkfbccknoaaGreatDoorTie.lean); close each card by the builder's one call (the guide's Derived/Test/ToyasCard.lean, 'card_holds'). Laid BY PROGRAM, IN A SANDBOX (cutbox-door.mjs). By AI agents, Wed Nov 11 2026. No macro, syntax, notation, axiom, sorry.
-/
import Derived.Test.YtgfklkfbccknoaaGreatDoorRows
import GoSem.ClaimSeven
namespace Go.Proofs.YtgfklkfbccknoaaGreatDoor
namespace Rows

/-- THE TIED CARD OF 'tamislaw11.HostTells'. -/
def hostTellsCard : Claim7 := { stood := { row := hostTellsRow, standIns := [], harness := (true, "ddaf40ef0d605852b189f0576b5715e98ad5f4a99648796a1062cb66a97de8da"), looks := false }, kinds := [], alts := [], laidByText := true, laidKinds := [.data, .data, .data, .data, .pinned], laidTests := true, laidLooks := .later }
def HostTellsCardSaid : Prop := Claim7.holds Tryz.pinned (.plain (OpenSpec.ofChange hostTellsSpec)) hostTellsCard

/-- THE TIED CARD OF 'tamislaw11.HostBack'. -/
def hostBackCard : Claim7 := { stood := { row := hostBackRow, standIns := [], harness := (true, "ddaf40ef0d605852b189f0576b5715e98ad5f4a99648796a1062cb66a97de8da"), looks := false }, kinds := [], alts := [], laidByText := true, laidKinds := [.data, .data, .data, .data, .pinned], laidTests := true, laidLooks := .later }
def HostBackCardSaid : Prop := Claim7.holds Tryz.pinned (.plain (OpenSpec.ofChange hostBackSpec)) hostBackCard

/-- THE TIED CARD OF 'tamislaw11.HostKinds'. -/
def hostKindsCard : Claim7 := { stood := { row := hostKindsRow, standIns := [], harness := (true, "ddaf40ef0d605852b189f0576b5715e98ad5f4a99648796a1062cb66a97de8da"), looks := false }, kinds := [], alts := [], laidByText := true, laidKinds := [.data, .data, .data, .data, .pinned], laidTests := true, laidLooks := .later }
def HostKindsCardSaid : Prop := Claim7.holds Tryz.pinned (.plain (OpenSpec.ofChange hostKindsSpec)) hostKindsCard

/-- THE TIED CARD OF 'tamislaw11.HostAddress'. -/
def hostAddressCard : Claim7 := { stood := { row := hostAddressRow, standIns := [], harness := (true, "ddaf40ef0d605852b189f0576b5715e98ad5f4a99648796a1062cb66a97de8da"), looks := false }, kinds := [], alts := [], laidByText := true, laidKinds := [.data, .data, .data, .data, .pinned], laidTests := true, laidLooks := .later }
def HostAddressCardSaid : Prop := Claim7.holds Tryz.pinned (.plain (OpenSpec.ofChange hostAddressSpec)) hostAddressCard

/-- THE TIED CARD OF 'tamislaw11.HostBad'. -/
def hostBadCard : Claim7 := { stood := { row := hostBadRow, standIns := [], harness := (true, "ddaf40ef0d605852b189f0576b5715e98ad5f4a99648796a1062cb66a97de8da"), looks := false }, kinds := [], alts := [], laidByText := true, laidKinds := [.data, .data, .data, .data, .pinned], laidTests := true, laidLooks := .later }
def HostBadCardSaid : Prop := Claim7.holds Tryz.pinned (.plain (OpenSpec.ofChange hostBadSpec)) hostBadCard

/-- THE TIED CARD OF 'tamislaw11.HostAny'. -/
def hostAnyCard : Claim7 := { stood := { row := hostAnyRow, standIns := [], harness := (true, "ddaf40ef0d605852b189f0576b5715e98ad5f4a99648796a1062cb66a97de8da"), looks := false }, kinds := [], alts := [], laidByText := true, laidKinds := [.data, .data, .data, .data, .pinned], laidTests := true, laidLooks := .later }
def HostAnyCardSaid : Prop := Claim7.holds Tryz.pinned (.plain (OpenSpec.ofChange hostAnySpec)) hostAnyCard

/-- THE TIED CARD OF 'tamislaw11.HostCoded'. -/
def hostCodedCard : Claim7 := { stood := { row := hostCodedRow, standIns := [], harness := (true, "ddaf40ef0d605852b189f0576b5715e98ad5f4a99648796a1062cb66a97de8da"), looks := false }, kinds := [], alts := [], laidByText := true, laidKinds := [.data, .data, .data, .data, .pinned], laidTests := true, laidLooks := .later }
def HostCodedCardSaid : Prop := Claim7.holds Tryz.pinned (.plain (OpenSpec.ofChange hostCodedSpec)) hostCodedCard

/-- THE SECOND FORM's CARD OF 'tamislaw11.HostTells'. -/
def hostTellsUptoCard : Claim7 := { stood := { row := hostTellsUptoRow, standIns := [], harness := (true, "ddaf40ef0d605852b189f0576b5715e98ad5f4a99648796a1062cb66a97de8da"), looks := false }, kinds := [], alts := [], laidByText := true, laidKinds := [.data, .data, .data, .data, .pinned], laidTests := true, laidLooks := .later }
def HostTellsUptoCardSaid : Prop := Claim7.holds Tryz.pinned (.plain (OpenSpec.upto hostTellsSpec)) hostTellsUptoCard

/-- THE SECOND FORM's CARD OF 'tamislaw11.HostBack'. -/
def hostBackUptoCard : Claim7 := { stood := { row := hostBackUptoRow, standIns := [], harness := (true, "ddaf40ef0d605852b189f0576b5715e98ad5f4a99648796a1062cb66a97de8da"), looks := false }, kinds := [], alts := [], laidByText := true, laidKinds := [.data, .data, .data, .data, .pinned], laidTests := true, laidLooks := .later }
def HostBackUptoCardSaid : Prop := Claim7.holds Tryz.pinned (.plain (OpenSpec.upto hostBackSpec)) hostBackUptoCard

/-- THE SECOND FORM's CARD OF 'tamislaw11.HostKinds'. -/
def hostKindsUptoCard : Claim7 := { stood := { row := hostKindsUptoRow, standIns := [], harness := (true, "ddaf40ef0d605852b189f0576b5715e98ad5f4a99648796a1062cb66a97de8da"), looks := false }, kinds := [], alts := [], laidByText := true, laidKinds := [.data, .data, .data, .data, .pinned], laidTests := true, laidLooks := .later }
def HostKindsUptoCardSaid : Prop := Claim7.holds Tryz.pinned (.plain (OpenSpec.upto hostKindsSpec)) hostKindsUptoCard

/-- THE SECOND FORM's CARD OF 'tamislaw11.HostAddress'. -/
def hostAddressUptoCard : Claim7 := { stood := { row := hostAddressUptoRow, standIns := [], harness := (true, "ddaf40ef0d605852b189f0576b5715e98ad5f4a99648796a1062cb66a97de8da"), looks := false }, kinds := [], alts := [], laidByText := true, laidKinds := [.data, .data, .data, .data, .pinned], laidTests := true, laidLooks := .later }
def HostAddressUptoCardSaid : Prop := Claim7.holds Tryz.pinned (.plain (OpenSpec.upto hostAddressSpec)) hostAddressUptoCard

/-- THE SECOND FORM's CARD OF 'tamislaw11.HostBad'. -/
def hostBadUptoCard : Claim7 := { stood := { row := hostBadUptoRow, standIns := [], harness := (true, "ddaf40ef0d605852b189f0576b5715e98ad5f4a99648796a1062cb66a97de8da"), looks := false }, kinds := [], alts := [], laidByText := true, laidKinds := [.data, .data, .data, .data, .pinned], laidTests := true, laidLooks := .later }
def HostBadUptoCardSaid : Prop := Claim7.holds Tryz.pinned (.plain (OpenSpec.upto hostBadSpec)) hostBadUptoCard

/-- THE SECOND FORM's CARD OF 'tamislaw11.HostAny'. -/
def hostAnyUptoCard : Claim7 := { stood := { row := hostAnyUptoRow, standIns := [], harness := (true, "ddaf40ef0d605852b189f0576b5715e98ad5f4a99648796a1062cb66a97de8da"), looks := false }, kinds := [], alts := [], laidByText := true, laidKinds := [.data, .data, .data, .data, .pinned], laidTests := true, laidLooks := .later }
def HostAnyUptoCardSaid : Prop := Claim7.holds Tryz.pinned (.plain (OpenSpec.upto hostAnySpec)) hostAnyUptoCard

/-- THE SECOND FORM's CARD OF 'tamislaw11.HostCoded'. -/
def hostCodedUptoCard : Claim7 := { stood := { row := hostCodedUptoRow, standIns := [], harness := (true, "ddaf40ef0d605852b189f0576b5715e98ad5f4a99648796a1062cb66a97de8da"), looks := false }, kinds := [], alts := [], laidByText := true, laidKinds := [.data, .data, .data, .data, .pinned], laidTests := true, laidLooks := .later }
def HostCodedUptoCardSaid : Prop := Claim7.holds Tryz.pinned (.plain (OpenSpec.upto hostCodedSpec)) hostCodedUptoCard
end Rows
end Go.Proofs.YtgfklkfbccknoaaGreatDoor
