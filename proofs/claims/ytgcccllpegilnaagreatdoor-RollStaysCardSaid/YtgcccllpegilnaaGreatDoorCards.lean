/-
  DERIVED. GIVEN WITH THE SEED: THE CARDS: each row of YtgcccllpegilnaaGreatDoorRows.lean that lists a variable, with what it lists TIED to the program's text (the seventh form; the later family's looks); each row that meets fmt, with fmt's text TOLD by the authors' own Lean function (tested against real Go, not proved from fmt's source: count such statements apart). THE CARD IS WHAT COUNTS. Prove the row's statement (the work); the ties are given (YtgcccllpegilnaaGreatDoorTie.lean); close each card by the builder's one call (the guide's Derived/Test/ToyasCard.lean, 'card_holds'). Laid BY PROGRAM, IN A SANDBOX (cutbox-door.mjs). By AI agents, Wed Nov 11 2026. No macro, syntax, notation, axiom, sorry.
-/
import Derived.Test.YtgcccllpegilnaaGreatDoorRows
import GoSem.ClaimSeven
namespace Go.Proofs.YtgcccllpegilnaaGreatDoor
namespace Rows

/-- THE TIED CARD OF 'exchequerlaw15.RollDoes'. -/
def rollDoesCard : Claim7 := { stood := { row := rollDoesRow, standIns := [], harness := (true, "82cb678b3ad9d72f9d391f7f2f2e26c6c8e093bfd1a01d69efcc491eb36817c7"), looks := false }, kinds := [], alts := [], laidByText := true, laidKinds := [.data, .pinned], laidTests := true, laidLooks := .later }
def RollDoesCardSaid : Prop := Claim7.holds Tryz.pinned (.plain (OpenSpec.ofChange rollDoesSpec)) rollDoesCard

/-- THE TIED CARD OF 'exchequerlaw15.RollStays'. -/
def rollStaysCard : Claim7 := { stood := { row := rollStaysRow, standIns := [], harness := (true, "82cb678b3ad9d72f9d391f7f2f2e26c6c8e093bfd1a01d69efcc491eb36817c7"), looks := false }, kinds := [], alts := [], laidByText := true, laidKinds := [.data, .pinned], laidTests := true, laidLooks := .later }
def RollStaysCardSaid : Prop := Claim7.holds Tryz.pinned (.plain (OpenSpec.ofChange rollStaysSpec)) rollStaysCard

/-- THE TIED CARD OF 'exchequerlaw15.RollRevokes'. -/
def rollRevokesCard : Claim7 := { stood := { row := rollRevokesRow, standIns := [], harness := (true, "82cb678b3ad9d72f9d391f7f2f2e26c6c8e093bfd1a01d69efcc491eb36817c7"), looks := false }, kinds := [], alts := [], laidByText := true, laidKinds := [.data, .pinned], laidTests := true, laidLooks := .later }
def RollRevokesCardSaid : Prop := Claim7.holds Tryz.pinned (.plain (OpenSpec.ofChange rollRevokesSpec)) rollRevokesCard

/-- THE TIED CARD OF 'exchequerlaw15.RollRights'. -/
def rollRightsCard : Claim7 := { stood := { row := rollRightsRow, standIns := [], harness := (true, "82cb678b3ad9d72f9d391f7f2f2e26c6c8e093bfd1a01d69efcc491eb36817c7"), looks := false }, kinds := [], alts := [], laidByText := true, laidKinds := [.data, .pinned], laidTests := true, laidLooks := .later }
def RollRightsCardSaid : Prop := Claim7.holds Tryz.pinned (.plain (OpenSpec.ofChange rollRightsSpec)) rollRightsCard

/-- THE TIED CARD OF 'exchequerlaw15.RollTenants'. -/
def rollTenantsCard : Claim7 := { stood := { row := rollTenantsRow, standIns := [], harness := (true, "82cb678b3ad9d72f9d391f7f2f2e26c6c8e093bfd1a01d69efcc491eb36817c7"), looks := false }, kinds := [], alts := [], laidByText := true, laidKinds := [.data, .pinned], laidTests := true, laidLooks := .later }
def RollTenantsCardSaid : Prop := Claim7.holds Tryz.pinned (.plain (OpenSpec.ofChange rollTenantsSpec)) rollTenantsCard

/-- THE SECOND FORM's CARD OF 'exchequerlaw15.RollDoes'. -/
def rollDoesUptoCard : Claim7 := { stood := { row := rollDoesUptoRow, standIns := [], harness := (true, "82cb678b3ad9d72f9d391f7f2f2e26c6c8e093bfd1a01d69efcc491eb36817c7"), looks := false }, kinds := [], alts := [], laidByText := true, laidKinds := [.data, .pinned], laidTests := true, laidLooks := .later }
def RollDoesUptoCardSaid : Prop := Claim7.holds Tryz.pinned (.plain (OpenSpec.upto rollDoesSpec)) rollDoesUptoCard

/-- THE SECOND FORM's CARD OF 'exchequerlaw15.RollStays'. -/
def rollStaysUptoCard : Claim7 := { stood := { row := rollStaysUptoRow, standIns := [], harness := (true, "82cb678b3ad9d72f9d391f7f2f2e26c6c8e093bfd1a01d69efcc491eb36817c7"), looks := false }, kinds := [], alts := [], laidByText := true, laidKinds := [.data, .pinned], laidTests := true, laidLooks := .later }
def RollStaysUptoCardSaid : Prop := Claim7.holds Tryz.pinned (.plain (OpenSpec.upto rollStaysSpec)) rollStaysUptoCard

/-- THE SECOND FORM's CARD OF 'exchequerlaw15.RollRevokes'. -/
def rollRevokesUptoCard : Claim7 := { stood := { row := rollRevokesUptoRow, standIns := [], harness := (true, "82cb678b3ad9d72f9d391f7f2f2e26c6c8e093bfd1a01d69efcc491eb36817c7"), looks := false }, kinds := [], alts := [], laidByText := true, laidKinds := [.data, .pinned], laidTests := true, laidLooks := .later }
def RollRevokesUptoCardSaid : Prop := Claim7.holds Tryz.pinned (.plain (OpenSpec.upto rollRevokesSpec)) rollRevokesUptoCard

/-- THE SECOND FORM's CARD OF 'exchequerlaw15.RollRights'. -/
def rollRightsUptoCard : Claim7 := { stood := { row := rollRightsUptoRow, standIns := [], harness := (true, "82cb678b3ad9d72f9d391f7f2f2e26c6c8e093bfd1a01d69efcc491eb36817c7"), looks := false }, kinds := [], alts := [], laidByText := true, laidKinds := [.data, .pinned], laidTests := true, laidLooks := .later }
def RollRightsUptoCardSaid : Prop := Claim7.holds Tryz.pinned (.plain (OpenSpec.upto rollRightsSpec)) rollRightsUptoCard

/-- THE SECOND FORM's CARD OF 'exchequerlaw15.RollTenants'. -/
def rollTenantsUptoCard : Claim7 := { stood := { row := rollTenantsUptoRow, standIns := [], harness := (true, "82cb678b3ad9d72f9d391f7f2f2e26c6c8e093bfd1a01d69efcc491eb36817c7"), looks := false }, kinds := [], alts := [], laidByText := true, laidKinds := [.data, .pinned], laidTests := true, laidLooks := .later }
def RollTenantsUptoCardSaid : Prop := Claim7.holds Tryz.pinned (.plain (OpenSpec.upto rollTenantsSpec)) rollTenantsUptoCard
end Rows
end Go.Proofs.YtgcccllpegilnaaGreatDoor
