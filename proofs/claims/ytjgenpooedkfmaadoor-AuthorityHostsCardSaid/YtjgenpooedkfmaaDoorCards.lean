/-
  DERIVED. GIVEN WITH THE SEED: THE CARDS: each row of YtjgenpooedkfmaaDoorRows.lean that lists a variable, with what it lists TIED to the program's text (the seventh form; the later family's looks); each row that meets fmt, with fmt's text TOLD by the authors' own Lean function (tested against real Go, not proved from fmt's source: count such statements apart). THE CARD IS WHAT COUNTS. Prove the row's statement (the work); the ties are given (YtjgenpooedkfmaaDoorTie.lean); close each card by the builder's one call (the guide's Derived/Test/ToyasCard.lean, 'card_holds'). Laid BY PROGRAM, IN A SANDBOX (cutbox-door.mjs). By AI agents, Wed Nov 11 2026. No macro, syntax, notation, axiom, sorry.
-/
import Derived.Test.YtjgenpooedkfmaaDoorRows
import GoSem.ClaimSeven
namespace Go.Proofs.YtjgenpooedkfmaaDoor
namespace Rows

/-- THE TIED CARD OF 'tamislaw15.AuthorityUser'. -/
def authorityUserCard : Claim7 := { stood := { row := authorityUserRow, standIns := [], harness := (true, "9a3150582d4736121e18124f3eb570476ef4c9e8a5a8edc4497ff79fd7c32ddf"), looks := false }, kinds := [], alts := [], laidByText := true, laidKinds := [.data, .pinned], laidTests := true, laidLooks := .later }
def AuthorityUserCardSaid : Prop := Claim7.holds Tryd.pinned (.plain (OpenSpec.ofChange authorityUserSpec)) authorityUserCard

/-- THE TIED CARD OF 'tamislaw15.AuthorityHosts'. -/
def authorityHostsCard : Claim7 := { stood := { row := authorityHostsRow, standIns := [], harness := (true, "9a3150582d4736121e18124f3eb570476ef4c9e8a5a8edc4497ff79fd7c32ddf"), looks := false }, kinds := [], alts := [], laidByText := true, laidKinds := [.data, .pinned], laidTests := true, laidLooks := .later }
def AuthorityHostsCardSaid : Prop := Claim7.holds Tryd.pinned (.plain (OpenSpec.ofChange authorityHostsSpec)) authorityHostsCard

/-- THE SECOND FORM's CARD OF 'tamislaw15.AuthorityUser'. -/
def authorityUserUptoCard : Claim7 := { stood := { row := authorityUserUptoRow, standIns := [], harness := (true, "9a3150582d4736121e18124f3eb570476ef4c9e8a5a8edc4497ff79fd7c32ddf"), looks := false }, kinds := [], alts := [], laidByText := true, laidKinds := [.data, .pinned], laidTests := true, laidLooks := .later }
def AuthorityUserUptoCardSaid : Prop := Claim7.holds Tryd.pinned (.plain (OpenSpec.upto authorityUserSpec)) authorityUserUptoCard

/-- THE SECOND FORM's CARD OF 'tamislaw15.AuthorityHosts'. -/
def authorityHostsUptoCard : Claim7 := { stood := { row := authorityHostsUptoRow, standIns := [], harness := (true, "9a3150582d4736121e18124f3eb570476ef4c9e8a5a8edc4497ff79fd7c32ddf"), looks := false }, kinds := [], alts := [], laidByText := true, laidKinds := [.data, .pinned], laidTests := true, laidLooks := .later }
def AuthorityHostsUptoCardSaid : Prop := Claim7.holds Tryd.pinned (.plain (OpenSpec.upto authorityHostsSpec)) authorityHostsUptoCard
end Rows
end Go.Proofs.YtjgenpooedkfmaaDoor
