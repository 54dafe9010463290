/-
  DERIVED. GIVEN WITH THE SEED: THE CARDS: each row of YtkpojedpcabojaaDoorRows.lean that lists a variable, with what it lists TIED to the program's text (the seventh form; the later family's looks); each row that meets fmt, with fmt's text TOLD by the authors' own Lean function (tested against real Go, not proved from fmt's source: count such statements apart). THE CARD IS WHAT COUNTS. Prove the row's statement (the work); the ties are given (YtkpojedpcabojaaDoorTie.lean); close each card by the builder's one call (the guide's Derived/Test/ToyasCard.lean, 'card_holds'). Laid BY PROGRAM, IN A SANDBOX (cutbox-door.mjs). By AI agents, Wed Nov 11 2026. No macro, syntax, notation, axiom, sorry.
-/
import Derived.Test.YtkpojedpcabojaaDoorRows
import GoSem.ClaimSeven
namespace Go.Proofs.YtkpojedpcabojaaDoor
namespace Rows

/-- THE TIED CARD OF 'exchequerlaw18.QuotaKeeps'. -/
def quotaKeepsCard : Claim7 := { stood := { row := quotaKeepsRow, standIns := [], harness := (true, "11c2287b5b5f41d20ee8fc5d896b3b6524a46d0d802ae9d69857e8392ffe1a30"), looks := false }, kinds := [], alts := [], laidByText := true, laidKinds := [.data, .pinned], laidTests := true, laidLooks := .later }
def QuotaKeepsCardSaid : Prop := Claim7.holds Tryd.pinned (.plain (OpenSpec.ofChange quotaKeepsSpec)) quotaKeepsCard

/-- THE TIED CARD OF 'exchequerlaw18.QuotaLess'. -/
def quotaLessCard : Claim7 := { stood := { row := quotaLessRow, standIns := [], harness := (true, "11c2287b5b5f41d20ee8fc5d896b3b6524a46d0d802ae9d69857e8392ffe1a30"), looks := false }, kinds := [], alts := [], laidByText := true, laidKinds := [.data, .pinned], laidTests := true, laidLooks := .later }
def QuotaLessCardSaid : Prop := Claim7.holds Tryd.pinned (.plain (OpenSpec.ofChange quotaLessSpec)) quotaLessCard

/-- THE TIED CARD OF 'exchequerlaw18.QuotaAfter'. -/
def quotaAfterCard : Claim7 := { stood := { row := quotaAfterRow, standIns := [], harness := (true, "11c2287b5b5f41d20ee8fc5d896b3b6524a46d0d802ae9d69857e8392ffe1a30"), looks := false }, kinds := [], alts := [], laidByText := true, laidKinds := [.data, .pinned], laidTests := true, laidLooks := .later }
def QuotaAfterCardSaid : Prop := Claim7.holds Tryd.pinned (.plain (OpenSpec.ofChange quotaAfterSpec)) quotaAfterCard

/-- THE TIED CARD OF 'exchequerlaw13.StoreOld'. -/
def storeOldCard : Claim7 := { stood := { row := storeOldRow, standIns := [], harness := (true, "11c2287b5b5f41d20ee8fc5d896b3b6524a46d0d802ae9d69857e8392ffe1a30"), looks := false }, kinds := [], alts := [], laidByText := true, laidKinds := [.data, .pinned], laidTests := true, laidLooks := .later }
def StoreOldCardSaid : Prop := Claim7.holds Tryd.pinned (.plain (OpenSpec.ofChange storeOldSpec)) storeOldCard

/-- THE TIED CARD OF 'exchequerlaw13.StoreCounts'. -/
def storeCountsCard : Claim7 := { stood := { row := storeCountsRow, standIns := [], harness := (true, "11c2287b5b5f41d20ee8fc5d896b3b6524a46d0d802ae9d69857e8392ffe1a30"), looks := false }, kinds := [], alts := [], laidByText := true, laidKinds := [.data, .pinned], laidTests := true, laidLooks := .later }
def StoreCountsCardSaid : Prop := Claim7.holds Tryd.pinned (.plain (OpenSpec.ofChange storeCountsSpec)) storeCountsCard

/-- THE TIED CARD OF 'exchequerlaw13.StoreWhere'. -/
def storeWhereCard : Claim7 := { stood := { row := storeWhereRow, standIns := [], harness := (true, "11c2287b5b5f41d20ee8fc5d896b3b6524a46d0d802ae9d69857e8392ffe1a30"), looks := false }, kinds := [], alts := [], laidByText := true, laidKinds := [.data, .pinned], laidTests := true, laidLooks := .later }
def StoreWhereCardSaid : Prop := Claim7.holds Tryd.pinned (.plain (OpenSpec.ofChange storeWhereSpec)) storeWhereCard

/-- THE TIED CARD OF 'exchequerlaw18.QuotaFits'. -/
def quotaFitsCard : Claim7 := { stood := { row := quotaFitsRow, standIns := [], harness := (true, "11c2287b5b5f41d20ee8fc5d896b3b6524a46d0d802ae9d69857e8392ffe1a30"), looks := false }, kinds := [], alts := [], laidByText := true, laidKinds := [.data, .pinned], laidTests := true, laidLooks := .later }
def QuotaFitsCardSaid : Prop := Claim7.holds Tryd.pinned (.plain (OpenSpec.ofChange quotaFitsSpec)) quotaFitsCard

/-- THE TIED CARD OF 'exchequerlaw13.StoreApart'. -/
def storeApartCard : Claim7 := { stood := { row := storeApartRow, standIns := [], harness := (true, "11c2287b5b5f41d20ee8fc5d896b3b6524a46d0d802ae9d69857e8392ffe1a30"), looks := false }, kinds := [], alts := [], laidByText := true, laidKinds := [.data, .pinned], laidTests := true, laidLooks := .later }
def StoreApartCardSaid : Prop := Claim7.holds Tryd.pinned (.plain (OpenSpec.ofChange storeApartSpec)) storeApartCard

/-- THE TIED CARD OF 'exchequerlaw13.StorePlays'. -/
def storePlaysCard : Claim7 := { stood := { row := storePlaysRow, standIns := [], harness := (true, "11c2287b5b5f41d20ee8fc5d896b3b6524a46d0d802ae9d69857e8392ffe1a30"), looks := false }, kinds := [], alts := [], laidByText := true, laidKinds := [.data, .pinned], laidTests := true, laidLooks := .later }
def StorePlaysCardSaid : Prop := Claim7.holds Tryd.pinned (.plain (OpenSpec.ofChange storePlaysSpec)) storePlaysCard

/-- THE TIED CARD OF 'exchequerlaw13.StoreNone'. -/
def storeNoneCard : Claim7 := { stood := { row := storeNoneRow, standIns := [], harness := (true, "11c2287b5b5f41d20ee8fc5d896b3b6524a46d0d802ae9d69857e8392ffe1a30"), looks := false }, kinds := [], alts := [], laidByText := true, laidKinds := [.data, .pinned], laidTests := true, laidLooks := .later }
def StoreNoneCardSaid : Prop := Claim7.holds Tryd.pinned (.plain (OpenSpec.ofChange storeNoneSpec)) storeNoneCard

/-- THE TIED CARD OF 'exchequerlaw14.TxnRights'. -/
def txnRightsCard : Claim7 := { stood := { row := txnRightsRow, standIns := [], harness := (true, "11c2287b5b5f41d20ee8fc5d896b3b6524a46d0d802ae9d69857e8392ffe1a30"), looks := false }, kinds := [], alts := [], laidByText := true, laidKinds := [.data, .pinned], laidTests := true, laidLooks := .later }
def TxnRightsCardSaid : Prop := Claim7.holds Tryd.pinned (.plain (OpenSpec.ofChange txnRightsSpec)) txnRightsCard

/-- THE TIED CARD OF 'exchequerlaw14.TxnDone'. -/
def txnDoneCard : Claim7 := { stood := { row := txnDoneRow, standIns := [], harness := (true, "11c2287b5b5f41d20ee8fc5d896b3b6524a46d0d802ae9d69857e8392ffe1a30"), looks := false }, kinds := [], alts := [], laidByText := true, laidKinds := [.data, .pinned], laidTests := true, laidLooks := .later }
def TxnDoneCardSaid : Prop := Claim7.holds Tryd.pinned (.plain (OpenSpec.ofChange txnDoneSpec)) txnDoneCard

/-- THE TIED CARD OF 'exchequerlaw14.TxnWithin'. -/
def txnWithinCard : Claim7 := { stood := { row := txnWithinRow, standIns := [], harness := (true, "11c2287b5b5f41d20ee8fc5d896b3b6524a46d0d802ae9d69857e8392ffe1a30"), looks := false }, kinds := [], alts := [], laidByText := true, laidKinds := [.data, .pinned], laidTests := true, laidLooks := .later }
def TxnWithinCardSaid : Prop := Claim7.holds Tryd.pinned (.plain (OpenSpec.ofChange txnWithinSpec)) txnWithinCard

/-- THE TIED CARD OF 'exchequerlaw14.TxnBlind'. -/
def txnBlindCard : Claim7 := { stood := { row := txnBlindRow, standIns := [], harness := (true, "11c2287b5b5f41d20ee8fc5d896b3b6524a46d0d802ae9d69857e8392ffe1a30"), looks := false }, kinds := [], alts := [], laidByText := true, laidKinds := [.data, .pinned], laidTests := true, laidLooks := .later }
def TxnBlindCardSaid : Prop := Claim7.holds Tryd.pinned (.plain (OpenSpec.ofChange txnBlindSpec)) txnBlindCard

/-- THE SECOND FORM's CARD OF 'exchequerlaw18.QuotaKeeps'. -/
def quotaKeepsUptoCard : Claim7 := { stood := { row := quotaKeepsUptoRow, standIns := [], harness := (true, "11c2287b5b5f41d20ee8fc5d896b3b6524a46d0d802ae9d69857e8392ffe1a30"), looks := false }, kinds := [], alts := [], laidByText := true, laidKinds := [.data, .pinned], laidTests := true, laidLooks := .later }
def QuotaKeepsUptoCardSaid : Prop := Claim7.holds Tryd.pinned (.plain (OpenSpec.upto quotaKeepsSpec)) quotaKeepsUptoCard

/-- THE SECOND FORM's CARD OF 'exchequerlaw18.QuotaLess'. -/
def quotaLessUptoCard : Claim7 := { stood := { row := quotaLessUptoRow, standIns := [], harness := (true, "11c2287b5b5f41d20ee8fc5d896b3b6524a46d0d802ae9d69857e8392ffe1a30"), looks := false }, kinds := [], alts := [], laidByText := true, laidKinds := [.data, .pinned], laidTests := true, laidLooks := .later }
def QuotaLessUptoCardSaid : Prop := Claim7.holds Tryd.pinned (.plain (OpenSpec.upto quotaLessSpec)) quotaLessUptoCard

/-- THE SECOND FORM's CARD OF 'exchequerlaw18.QuotaAfter'. -/
def quotaAfterUptoCard : Claim7 := { stood := { row := quotaAfterUptoRow, standIns := [], harness := (true, "11c2287b5b5f41d20ee8fc5d896b3b6524a46d0d802ae9d69857e8392ffe1a30"), looks := false }, kinds := [], alts := [], laidByText := true, laidKinds := [.data, .pinned], laidTests := true, laidLooks := .later }
def QuotaAfterUptoCardSaid : Prop := Claim7.holds Tryd.pinned (.plain (OpenSpec.upto quotaAfterSpec)) quotaAfterUptoCard

/-- THE SECOND FORM's CARD OF 'exchequerlaw13.StoreOld'. -/
def storeOldUptoCard : Claim7 := { stood := { row := storeOldUptoRow, standIns := [], harness := (true, "11c2287b5b5f41d20ee8fc5d896b3b6524a46d0d802ae9d69857e8392ffe1a30"), looks := false }, kinds := [], alts := [], laidByText := true, laidKinds := [.data, .pinned], laidTests := true, laidLooks := .later }
def StoreOldUptoCardSaid : Prop := Claim7.holds Tryd.pinned (.plain (OpenSpec.upto storeOldSpec)) storeOldUptoCard

/-- THE SECOND FORM's CARD OF 'exchequerlaw13.StoreCounts'. -/
def storeCountsUptoCard : Claim7 := { stood := { row := storeCountsUptoRow, standIns := [], harness := (true, "11c2287b5b5f41d20ee8fc5d896b3b6524a46d0d802ae9d69857e8392ffe1a30"), looks := false }, kinds := [], alts := [], laidByText := true, laidKinds := [.data, .pinned], laidTests := true, laidLooks := .later }
def StoreCountsUptoCardSaid : Prop := Claim7.holds Tryd.pinned (.plain (OpenSpec.upto storeCountsSpec)) storeCountsUptoCard

/-- THE SECOND FORM's CARD OF 'exchequerlaw13.StoreWhere'. -/
def storeWhereUptoCard : Claim7 := { stood := { row := storeWhereUptoRow, standIns := [], harness := (true, "11c2287b5b5f41d20ee8fc5d896b3b6524a46d0d802ae9d69857e8392ffe1a30"), looks := false }, kinds := [], alts := [], laidByText := true, laidKinds := [.data, .pinned], laidTests := true, laidLooks := .later }
def StoreWhereUptoCardSaid : Prop := Claim7.holds Tryd.pinned (.plain (OpenSpec.upto storeWhereSpec)) storeWhereUptoCard

/-- THE SECOND FORM's CARD OF 'exchequerlaw18.QuotaFits'. -/
def quotaFitsUptoCard : Claim7 := { stood := { row := quotaFitsUptoRow, standIns := [], harness := (true, "11c2287b5b5f41d20ee8fc5d896b3b6524a46d0d802ae9d69857e8392ffe1a30"), looks := false }, kinds := [], alts := [], laidByText := true, laidKinds := [.data, .pinned], laidTests := true, laidLooks := .later }
def QuotaFitsUptoCardSaid : Prop := Claim7.holds Tryd.pinned (.plain (OpenSpec.upto quotaFitsSpec)) quotaFitsUptoCard

/-- THE SECOND FORM's CARD OF 'exchequerlaw13.StoreApart'. -/
def storeApartUptoCard : Claim7 := { stood := { row := storeApartUptoRow, standIns := [], harness := (true, "11c2287b5b5f41d20ee8fc5d896b3b6524a46d0d802ae9d69857e8392ffe1a30"), looks := false }, kinds := [], alts := [], laidByText := true, laidKinds := [.data, .pinned], laidTests := true, laidLooks := .later }
def StoreApartUptoCardSaid : Prop := Claim7.holds Tryd.pinned (.plain (OpenSpec.upto storeApartSpec)) storeApartUptoCard

/-- THE SECOND FORM's CARD OF 'exchequerlaw13.StorePlays'. -/
def storePlaysUptoCard : Claim7 := { stood := { row := storePlaysUptoRow, standIns := [], harness := (true, "11c2287b5b5f41d20ee8fc5d896b3b6524a46d0d802ae9d69857e8392ffe1a30"), looks := false }, kinds := [], alts := [], laidByText := true, laidKinds := [.data, .pinned], laidTests := true, laidLooks := .later }
def StorePlaysUptoCardSaid : Prop := Claim7.holds Tryd.pinned (.plain (OpenSpec.upto storePlaysSpec)) storePlaysUptoCard

/-- THE SECOND FORM's CARD OF 'exchequerlaw13.StoreNone'. -/
def storeNoneUptoCard : Claim7 := { stood := { row := storeNoneUptoRow, standIns := [], harness := (true, "11c2287b5b5f41d20ee8fc5d896b3b6524a46d0d802ae9d69857e8392ffe1a30"), looks := false }, kinds := [], alts := [], laidByText := true, laidKinds := [.data, .pinned], laidTests := true, laidLooks := .later }
def StoreNoneUptoCardSaid : Prop := Claim7.holds Tryd.pinned (.plain (OpenSpec.upto storeNoneSpec)) storeNoneUptoCard

/-- THE SECOND FORM's CARD OF 'exchequerlaw14.TxnRights'. -/
def txnRightsUptoCard : Claim7 := { stood := { row := txnRightsUptoRow, standIns := [], harness := (true, "11c2287b5b5f41d20ee8fc5d896b3b6524a46d0d802ae9d69857e8392ffe1a30"), looks := false }, kinds := [], alts := [], laidByText := true, laidKinds := [.data, .pinned], laidTests := true, laidLooks := .later }
def TxnRightsUptoCardSaid : Prop := Claim7.holds Tryd.pinned (.plain (OpenSpec.upto txnRightsSpec)) txnRightsUptoCard

/-- THE SECOND FORM's CARD OF 'exchequerlaw14.TxnDone'. -/
def txnDoneUptoCard : Claim7 := { stood := { row := txnDoneUptoRow, standIns := [], harness := (true, "11c2287b5b5f41d20ee8fc5d896b3b6524a46d0d802ae9d69857e8392ffe1a30"), looks := false }, kinds := [], alts := [], laidByText := true, laidKinds := [.data, .pinned], laidTests := true, laidLooks := .later }
def TxnDoneUptoCardSaid : Prop := Claim7.holds Tryd.pinned (.plain (OpenSpec.upto txnDoneSpec)) txnDoneUptoCard

/-- THE SECOND FORM's CARD OF 'exchequerlaw14.TxnWithin'. -/
def txnWithinUptoCard : Claim7 := { stood := { row := txnWithinUptoRow, standIns := [], harness := (true, "11c2287b5b5f41d20ee8fc5d896b3b6524a46d0d802ae9d69857e8392ffe1a30"), looks := false }, kinds := [], alts := [], laidByText := true, laidKinds := [.data, .pinned], laidTests := true, laidLooks := .later }
def TxnWithinUptoCardSaid : Prop := Claim7.holds Tryd.pinned (.plain (OpenSpec.upto txnWithinSpec)) txnWithinUptoCard

/-- THE SECOND FORM's CARD OF 'exchequerlaw14.TxnBlind'. -/
def txnBlindUptoCard : Claim7 := { stood := { row := txnBlindUptoRow, standIns := [], harness := (true, "11c2287b5b5f41d20ee8fc5d896b3b6524a46d0d802ae9d69857e8392ffe1a30"), looks := false }, kinds := [], alts := [], laidByText := true, laidKinds := [.data, .pinned], laidTests := true, laidLooks := .later }
def TxnBlindUptoCardSaid : Prop := Claim7.holds Tryd.pinned (.plain (OpenSpec.upto txnBlindSpec)) txnBlindUptoCard
end Rows
end Go.Proofs.YtkpojedpcabojaaDoor
