/-
  DERIVED. GIVEN WITH THE SEED: THE CARDS: each row of YtkpojedpcabojaaGreatDoorRows.lean that lists a variable, with what it lists TIED to the program's text (the seventh form; the later family's looks); each row that meets fmt, with fmt's text TOLD by the authors' own Lean function (tested against real Go, not proved from fmt's source: count such statements apart). THE CARD IS WHAT COUNTS. Prove the row's statement (the work); the ties are given (YtkpojedpcabojaaGreatDoorTie.lean); close each card by the builder's one call (the guide's Derived/Test/ToyasCard.lean, 'card_holds'). Laid BY PROGRAM, IN A SANDBOX (cutbox-door.mjs). By AI agents, Wed Nov 11 2026. No macro, syntax, notation, axiom, sorry.
-/
import Derived.Test.YtkpojedpcabojaaGreatDoorRows
import GoSem.ClaimSeven
namespace Go.Proofs.YtkpojedpcabojaaGreatDoor
namespace Rows

/-- THE TIED CARD OF 'exchequerlaw14.TxnRuns'. -/
def txnRunsCard : Claim7 := { stood := { row := txnRunsRow, standIns := [], harness := (true, "aa5dfec3824ff16e6d3c45abc65a85139bf82a98d998ac79ecd26a42d983ece7"), looks := false }, kinds := [], alts := [], laidByText := true, laidKinds := [.data, .pinned], laidTests := true, laidLooks := .later }
def TxnRunsCardSaid : Prop := Claim7.holds Tryz.pinned (.plain (OpenSpec.ofChange txnRunsSpec)) txnRunsCard

/-- THE TIED CARD OF 'exchequerlaw13.StoreMakes'. -/
def storeMakesCard : Claim7 := { stood := { row := storeMakesRow, standIns := [], harness := (true, "aa5dfec3824ff16e6d3c45abc65a85139bf82a98d998ac79ecd26a42d983ece7"), looks := false }, kinds := [], alts := [], laidByText := true, laidKinds := [.data, .pinned], laidTests := true, laidLooks := .later }
def StoreMakesCardSaid : Prop := Claim7.holds Tryz.pinned (.plain (OpenSpec.ofChange storeMakesSpec)) storeMakesCard

/-- THE SECOND FORM's CARD OF 'exchequerlaw14.TxnRuns'. -/
def txnRunsUptoCard : Claim7 := { stood := { row := txnRunsUptoRow, standIns := [], harness := (true, "aa5dfec3824ff16e6d3c45abc65a85139bf82a98d998ac79ecd26a42d983ece7"), looks := false }, kinds := [], alts := [], laidByText := true, laidKinds := [.data, .pinned], laidTests := true, laidLooks := .later }
def TxnRunsUptoCardSaid : Prop := Claim7.holds Tryz.pinned (.plain (OpenSpec.upto txnRunsSpec)) txnRunsUptoCard

/-- THE SECOND FORM's CARD OF 'exchequerlaw13.StoreMakes'. -/
def storeMakesUptoCard : Claim7 := { stood := { row := storeMakesUptoRow, standIns := [], harness := (true, "aa5dfec3824ff16e6d3c45abc65a85139bf82a98d998ac79ecd26a42d983ece7"), looks := false }, kinds := [], alts := [], laidByText := true, laidKinds := [.data, .pinned], laidTests := true, laidLooks := .later }
def StoreMakesUptoCardSaid : Prop := Claim7.holds Tryz.pinned (.plain (OpenSpec.upto storeMakesSpec)) storeMakesUptoCard
end Rows
end Go.Proofs.YtkpojedpcabojaaGreatDoor
