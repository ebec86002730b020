/-
  DERIVED. GIVEN WITH THE SEED: THE CARDS: each row of YtledmlgebfbhaaaDoorRows.lean that lists a variable, with what it lists TIED to the program's text (the seventh form; the later family's looks); each row that meets fmt, with fmt's text TOLD by the authors' own Lean function (tested against real Go, not proved from fmt's source: count such statements apart). THE CARD IS WHAT COUNTS. Prove the row's statement (the work); the ties are given (YtledmlgebfbhaaaDoorTie.lean); close each card by the builder's one call (the guide's Derived/Test/ToyasCard.lean, 'card_holds'). Laid BY PROGRAM, IN A SANDBOX (cutbox-door.mjs). By AI agents, Wed Nov 11 2026. No macro, syntax, notation, axiom, sorry.
-/
import Derived.Test.YtledmlgebfbhaaaDoorRows
import GoSem.ClaimSeven
namespace Go.Proofs.YtledmlgebfbhaaaDoor
namespace Rows

/-- THE TIED CARD OF 'tamislaw08.IdnaTells'. -/
def idnaTellsCard : Claim7 := { stood := { row := idnaTellsRow, standIns := [], harness := (true, "66aae462dcd44eaee0e0c621eb193c9c3538e89ec21c39f3c7d8613a55f394e2"), looks := false }, kinds := [], alts := [], laidByText := true, laidKinds := [.data, .pinned], laidTests := true, laidLooks := .later }
def IdnaTellsCardSaid : Prop := Claim7.holds Tryd.pinned (.plain (OpenSpec.ofChange idnaTellsSpec)) idnaTellsCard

/-- THE TIED CARD OF 'tamislaw08.IdnaMaps'. -/
def idnaMapsCard : Claim7 := { stood := { row := idnaMapsRow, standIns := [], harness := (true, "66aae462dcd44eaee0e0c621eb193c9c3538e89ec21c39f3c7d8613a55f394e2"), looks := false }, kinds := [], alts := [], laidByText := true, laidKinds := [.data, .pinned], laidTests := true, laidLooks := .later }
def IdnaMapsCardSaid : Prop := Claim7.holds Tryd.pinned (.plain (OpenSpec.ofChange idnaMapsSpec)) idnaMapsCard

/-- THE TIED CARD OF 'tamislaw08.IdnaOnce'. -/
def idnaOnceCard : Claim7 := { stood := { row := idnaOnceRow, standIns := [], harness := (true, "66aae462dcd44eaee0e0c621eb193c9c3538e89ec21c39f3c7d8613a55f394e2"), looks := false }, kinds := [], alts := [], laidByText := true, laidKinds := [.data, .pinned], laidTests := true, laidLooks := .later }
def IdnaOnceCardSaid : Prop := Claim7.holds Tryd.pinned (.plain (OpenSpec.ofChange idnaOnceSpec)) idnaOnceCard

/-- THE TIED CARD OF 'tamislaw08.IdnaSteps'. -/
def idnaStepsCard : Claim7 := { stood := { row := idnaStepsRow, standIns := [], harness := (true, "66aae462dcd44eaee0e0c621eb193c9c3538e89ec21c39f3c7d8613a55f394e2"), looks := false }, kinds := [], alts := [], laidByText := true, laidKinds := [.data, .pinned], laidTests := true, laidLooks := .later }
def IdnaStepsCardSaid : Prop := Claim7.holds Tryd.pinned (.plain (OpenSpec.ofChange idnaStepsSpec)) idnaStepsCard

/-- THE TIED CARD OF 'tamislaw08.IdnaLabels'. -/
def idnaLabelsCard : Claim7 := { stood := { row := idnaLabelsRow, standIns := [], harness := (true, "66aae462dcd44eaee0e0c621eb193c9c3538e89ec21c39f3c7d8613a55f394e2"), looks := false }, kinds := [], alts := [], laidByText := true, laidKinds := [.data, .pinned], laidTests := true, laidLooks := .later }
def IdnaLabelsCardSaid : Prop := Claim7.holds Tryd.pinned (.plain (OpenSpec.ofChange idnaLabelsSpec)) idnaLabelsCard

/-- THE TIED CARD OF 'tamislaw08.IdnaBack'. -/
def idnaBackCard : Claim7 := { stood := { row := idnaBackRow, standIns := [], harness := (true, "66aae462dcd44eaee0e0c621eb193c9c3538e89ec21c39f3c7d8613a55f394e2"), looks := false }, kinds := [], alts := [], laidByText := true, laidKinds := [.data, .pinned], laidTests := true, laidLooks := .later }
def IdnaBackCardSaid : Prop := Claim7.holds Tryd.pinned (.plain (OpenSpec.ofChange idnaBackSpec)) idnaBackCard

/-- THE TIED CARD OF 'tamislaw08.IdnaGone'. -/
def idnaGoneCard : Claim7 := { stood := { row := idnaGoneRow, standIns := [], harness := (true, "66aae462dcd44eaee0e0c621eb193c9c3538e89ec21c39f3c7d8613a55f394e2"), looks := false }, kinds := [], alts := [], laidByText := true, laidKinds := [.data, .pinned], laidTests := true, laidLooks := .later }
def IdnaGoneCardSaid : Prop := Claim7.holds Tryd.pinned (.plain (OpenSpec.ofChange idnaGoneSpec)) idnaGoneCard

/-- THE SECOND FORM's CARD OF 'tamislaw08.IdnaTells'. -/
def idnaTellsUptoCard : Claim7 := { stood := { row := idnaTellsUptoRow, standIns := [], harness := (true, "66aae462dcd44eaee0e0c621eb193c9c3538e89ec21c39f3c7d8613a55f394e2"), looks := false }, kinds := [], alts := [], laidByText := true, laidKinds := [.data, .pinned], laidTests := true, laidLooks := .later }
def IdnaTellsUptoCardSaid : Prop := Claim7.holds Tryd.pinned (.plain (OpenSpec.upto idnaTellsSpec)) idnaTellsUptoCard

/-- THE SECOND FORM's CARD OF 'tamislaw08.IdnaMaps'. -/
def idnaMapsUptoCard : Claim7 := { stood := { row := idnaMapsUptoRow, standIns := [], harness := (true, "66aae462dcd44eaee0e0c621eb193c9c3538e89ec21c39f3c7d8613a55f394e2"), looks := false }, kinds := [], alts := [], laidByText := true, laidKinds := [.data, .pinned], laidTests := true, laidLooks := .later }
def IdnaMapsUptoCardSaid : Prop := Claim7.holds Tryd.pinned (.plain (OpenSpec.upto idnaMapsSpec)) idnaMapsUptoCard

/-- THE SECOND FORM's CARD OF 'tamislaw08.IdnaOnce'. -/
def idnaOnceUptoCard : Claim7 := { stood := { row := idnaOnceUptoRow, standIns := [], harness := (true, "66aae462dcd44eaee0e0c621eb193c9c3538e89ec21c39f3c7d8613a55f394e2"), looks := false }, kinds := [], alts := [], laidByText := true, laidKinds := [.data, .pinned], laidTests := true, laidLooks := .later }
def IdnaOnceUptoCardSaid : Prop := Claim7.holds Tryd.pinned (.plain (OpenSpec.upto idnaOnceSpec)) idnaOnceUptoCard

/-- THE SECOND FORM's CARD OF 'tamislaw08.IdnaSteps'. -/
def idnaStepsUptoCard : Claim7 := { stood := { row := idnaStepsUptoRow, standIns := [], harness := (true, "66aae462dcd44eaee0e0c621eb193c9c3538e89ec21c39f3c7d8613a55f394e2"), looks := false }, kinds := [], alts := [], laidByText := true, laidKinds := [.data, .pinned], laidTests := true, laidLooks := .later }
def IdnaStepsUptoCardSaid : Prop := Claim7.holds Tryd.pinned (.plain (OpenSpec.upto idnaStepsSpec)) idnaStepsUptoCard

/-- THE SECOND FORM's CARD OF 'tamislaw08.IdnaLabels'. -/
def idnaLabelsUptoCard : Claim7 := { stood := { row := idnaLabelsUptoRow, standIns := [], harness := (true, "66aae462dcd44eaee0e0c621eb193c9c3538e89ec21c39f3c7d8613a55f394e2"), looks := false }, kinds := [], alts := [], laidByText := true, laidKinds := [.data, .pinned], laidTests := true, laidLooks := .later }
def IdnaLabelsUptoCardSaid : Prop := Claim7.holds Tryd.pinned (.plain (OpenSpec.upto idnaLabelsSpec)) idnaLabelsUptoCard

/-- THE SECOND FORM's CARD OF 'tamislaw08.IdnaBack'. -/
def idnaBackUptoCard : Claim7 := { stood := { row := idnaBackUptoRow, standIns := [], harness := (true, "66aae462dcd44eaee0e0c621eb193c9c3538e89ec21c39f3c7d8613a55f394e2"), looks := false }, kinds := [], alts := [], laidByText := true, laidKinds := [.data, .pinned], laidTests := true, laidLooks := .later }
def IdnaBackUptoCardSaid : Prop := Claim7.holds Tryd.pinned (.plain (OpenSpec.upto idnaBackSpec)) idnaBackUptoCard

/-- THE SECOND FORM's CARD OF 'tamislaw08.IdnaGone'. -/
def idnaGoneUptoCard : Claim7 := { stood := { row := idnaGoneUptoRow, standIns := [], harness := (true, "66aae462dcd44eaee0e0c621eb193c9c3538e89ec21c39f3c7d8613a55f394e2"), looks := false }, kinds := [], alts := [], laidByText := true, laidKinds := [.data, .pinned], laidTests := true, laidLooks := .later }
def IdnaGoneUptoCardSaid : Prop := Claim7.holds Tryd.pinned (.plain (OpenSpec.upto idnaGoneSpec)) idnaGoneUptoCard
end Rows
end Go.Proofs.YtledmlgebfbhaaaDoor
