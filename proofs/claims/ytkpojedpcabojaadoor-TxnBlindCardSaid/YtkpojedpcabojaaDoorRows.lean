/-
  NARROWER THAN 'FOR EVERY INPUT', by the rows' own cells (each row's printed sentence says how): QuotaKeeps: laid · QuotaLess: laid · QuotaAfter: laid · StoreOld: laid · StoreCounts: laid · StoreWhere: laid · QuotaFits: laid · StoreApart: laid · StorePlays: laid · StoreNone: laid · TxnRights: laid · TxnDone: laid · TxnWithin: laid · TxnBlind: laid.
  DERIVED. THE GIVEN ROWS OF THIS SEAT. 14 by the template 'for every input the law returns true; each argument reads behind the call as it read before'; 0 by the template 'total and deterministic' (their statements: YtkpojedpcabojaaDoorTotals.lean).
  GIVEN WITH THE SEED: the statements are not yours to turn. If you find one false, say at which input.
  Laid BY PROGRAM, IN A SANDBOX (cutbox-rows.mjs): the forced cells as the released guide's own fill.sh prints them over the translation f28fd936e2826fc2… (all of the seat's roots in one cut). By AI agents, Wed Nov 11 2026. No macro, syntax, notation, axiom, sorry.
-/
import Derived.Test.YtkpojedpcabojaaDoorChecked
import GoSem.PinnedTables
import GoSem.Claim
import GoSem.ClaimJoined
import GoSem.ClaimMapViews
import Derived.JoinedTies
import Derived.KernelRfl
namespace Go.Proofs.YtkpojedpcabojaaDoor
/- THE CELL 'sum', in the pinned program and in every row, IS THE sha256 OF THE DUMP (.gsa) THAT YtkpojedpcabojaaDoorProg.lean LOADS. Nothing in Lean hashes anything: it is a label: what it is worth is what the hold of that sum in a sandbox is worth. -/
noncomputable def Tryd.pinned : Pinned := { name := "ytkpojedpcabojaadoor", sum := "f28fd936e2826fc28d5c355b622982e8972f42f4217b8072bff90fa738572869", checked := Tryd.checked }
namespace Rows
def none {H : Type} : Left H := { results := [], args := [] }

/- WHAT THE LISTED PACKAGE-LEVEL VARIABLES READ AS WHEN THE CALL BEGINS. Each datum BY PROGRAM (the guide's laid-datum.mjs) off the statement by which the dump's own 'gosem.cut.vars' lays the variable. In a bare row this is a premise. The card (YtkpojedpcabojaaDoorCards.lean) ties it to the program's text. -/
def laid_unicode_utf8_acceptRanges {H : Type} : DataW H := .agg [.agg [.lit (.int .u8 128), .lit (.int .u8 191)], .agg [.lit (.int .u8 160), .lit (.int .u8 191)], .agg [.lit (.int .u8 128), .lit (.int .u8 159)], .agg [.lit (.int .u8 144), .lit (.int .u8 191)], .agg [.lit (.int .u8 128), .lit (.int .u8 143)], .agg [.lit (.int .u8 0), .lit (.int .u8 0)], .agg [.lit (.int .u8 0), .lit (.int .u8 0)], .agg [.lit (.int .u8 0), .lit (.int .u8 0)], .agg [.lit (.int .u8 0), .lit (.int .u8 0)], .agg [.lit (.int .u8 0), .lit (.int .u8 0)], .agg [.lit (.int .u8 0), .lit (.int .u8 0)], .agg [.lit (.int .u8 0), .lit (.int .u8 0)], .agg [.lit (.int .u8 0), .lit (.int .u8 0)], .agg [.lit (.int .u8 0), .lit (.int .u8 0)], .agg [.lit (.int .u8 0), .lit (.int .u8 0)], .agg [.lit (.int .u8 0), .lit (.int .u8 0)]]
/-- One of Go's own tables, pinned by name: the form's constant. -/
def laid_unicode_utf8_first : DataW Unit := Go.Pinned.utf8First

/-- 'exchequerlaw18.QuotaKeeps': WHATEVER THE INPUT: true; the input reads as it did. -/
def quotaKeepsSpec : ChangeSpec := { name := "quotaKeeps", fn := fun _ => fun
  | [d1, d2] => { results := [.lit (.bool true)], args := [d1, d2] }
  | _ => none }
def quotaKeepsRow : OpenClaim := { program := "ytkpojedpcabojaadoor", sum := "f28fd936e2826fc28d5c355b622982e8972f42f4217b8072bff90fa738572869", func := "exchequer/exchequerlaw18.QuotaKeeps", spec := "quotaKeeps", inPlace := ["slices.overlaps[exchequer/store.held]"], unfollowed := true, recurses := true, named := ["unicode/utf8.first", "unicode/utf8.acceptRanges"], apart := false, laid := [("unicode/utf8.acceptRanges", laid_unicode_utf8_acceptRanges), ("unicode/utf8.first", laid_unicode_utf8_first)] }
def QuotaKeepsSaid : Prop := quotaKeepsRow.holds Tryd.pinned (OpenSpec.ofChange quotaKeepsSpec)

/-- ITS FALSE NEIGHBOUR: 'it returns false'. Refute it at one input. -/
def quotaKeepsWrong : ChangeSpec := { name := "quotaKeeps", fn := fun _ => fun
  | [d1, d2] => { results := [.lit (.bool false)], args := [d1, d2] }
  | _ => none }
def QuotaKeepsWrongFalsely : Prop := quotaKeepsRow.holds Tryd.pinned (OpenSpec.ofChange quotaKeepsWrong)

/-- 'exchequerlaw18.QuotaLess': WHATEVER THE INPUT: true; the input reads as it did. -/
def quotaLessSpec : ChangeSpec := { name := "quotaLess", fn := fun _ => fun
  | [d1, d2, d3] => { results := [.lit (.bool true)], args := [d1, d2, d3] }
  | _ => none }
def quotaLessRow : OpenClaim := { program := "ytkpojedpcabojaadoor", sum := "f28fd936e2826fc28d5c355b622982e8972f42f4217b8072bff90fa738572869", func := "exchequer/exchequerlaw18.QuotaLess", spec := "quotaLess", inPlace := ["slices.overlaps[exchequer/store.held]"], unfollowed := true, recurses := true, named := ["unicode/utf8.first", "unicode/utf8.acceptRanges"], apart := false, laid := [("unicode/utf8.acceptRanges", laid_unicode_utf8_acceptRanges), ("unicode/utf8.first", laid_unicode_utf8_first)] }
def QuotaLessSaid : Prop := quotaLessRow.holds Tryd.pinned (OpenSpec.ofChange quotaLessSpec)

/-- ITS FALSE NEIGHBOUR: 'it returns false'. Refute it at one input. -/
def quotaLessWrong : ChangeSpec := { name := "quotaLess", fn := fun _ => fun
  | [d1, d2, d3] => { results := [.lit (.bool false)], args := [d1, d2, d3] }
  | _ => none }
def QuotaLessWrongFalsely : Prop := quotaLessRow.holds Tryd.pinned (OpenSpec.ofChange quotaLessWrong)

/-- 'exchequerlaw18.QuotaAfter': WHATEVER THE INPUT: true; the input reads as it did. -/
def quotaAfterSpec : ChangeSpec := { name := "quotaAfter", fn := fun _ => fun
  | [d1, d2] => { results := [.lit (.bool true)], args := [d1, d2] }
  | _ => none }
def quotaAfterRow : OpenClaim := { program := "ytkpojedpcabojaadoor", sum := "f28fd936e2826fc28d5c355b622982e8972f42f4217b8072bff90fa738572869", func := "exchequer/exchequerlaw18.QuotaAfter", spec := "quotaAfter", inPlace := ["slices.overlaps[exchequer/store.held]"], unfollowed := true, recurses := true, named := ["unicode/utf8.first", "unicode/utf8.acceptRanges"], apart := false, laid := [("unicode/utf8.acceptRanges", laid_unicode_utf8_acceptRanges), ("unicode/utf8.first", laid_unicode_utf8_first)] }
def QuotaAfterSaid : Prop := quotaAfterRow.holds Tryd.pinned (OpenSpec.ofChange quotaAfterSpec)

/-- ITS FALSE NEIGHBOUR: 'it returns false'. Refute it at one input. -/
def quotaAfterWrong : ChangeSpec := { name := "quotaAfter", fn := fun _ => fun
  | [d1, d2] => { results := [.lit (.bool false)], args := [d1, d2] }
  | _ => none }
def QuotaAfterWrongFalsely : Prop := quotaAfterRow.holds Tryd.pinned (OpenSpec.ofChange quotaAfterWrong)

/-- 'exchequerlaw13.StoreOld': WHATEVER THE INPUT: true; the input reads as it did. -/
def storeOldSpec : ChangeSpec := { name := "storeOld", fn := fun _ => fun
  | [d1, d2, d3] => { results := [.lit (.bool true)], args := [d1, d2, d3] }
  | _ => none }
def storeOldRow : OpenClaim := { program := "ytkpojedpcabojaadoor", sum := "f28fd936e2826fc28d5c355b622982e8972f42f4217b8072bff90fa738572869", func := "exchequer/exchequerlaw13.StoreOld", spec := "storeOld", inPlace := ["slices.overlaps[exchequer/store.held]"], unfollowed := true, recurses := true, named := ["unicode/utf8.first", "unicode/utf8.acceptRanges"], apart := false, laid := [("unicode/utf8.acceptRanges", laid_unicode_utf8_acceptRanges), ("unicode/utf8.first", laid_unicode_utf8_first)] }
def StoreOldSaid : Prop := storeOldRow.holds Tryd.pinned (OpenSpec.ofChange storeOldSpec)

/-- ITS FALSE NEIGHBOUR: 'it returns false'. Refute it at one input. -/
def storeOldWrong : ChangeSpec := { name := "storeOld", fn := fun _ => fun
  | [d1, d2, d3] => { results := [.lit (.bool false)], args := [d1, d2, d3] }
  | _ => none }
def StoreOldWrongFalsely : Prop := storeOldRow.holds Tryd.pinned (OpenSpec.ofChange storeOldWrong)

/-- 'exchequerlaw13.StoreCounts': WHATEVER THE INPUT: true; the input reads as it did. -/
def storeCountsSpec : ChangeSpec := { name := "storeCounts", fn := fun _ => fun
  | [d1, d2] => { results := [.lit (.bool true)], args := [d1, d2] }
  | _ => none }
def storeCountsRow : OpenClaim := { program := "ytkpojedpcabojaadoor", sum := "f28fd936e2826fc28d5c355b622982e8972f42f4217b8072bff90fa738572869", func := "exchequer/exchequerlaw13.StoreCounts", spec := "storeCounts", inPlace := ["slices.overlaps[exchequer/store.held]"], unfollowed := true, recurses := true, named := ["unicode/utf8.first", "unicode/utf8.acceptRanges"], apart := false, laid := [("unicode/utf8.acceptRanges", laid_unicode_utf8_acceptRanges), ("unicode/utf8.first", laid_unicode_utf8_first)] }
def StoreCountsSaid : Prop := storeCountsRow.holds Tryd.pinned (OpenSpec.ofChange storeCountsSpec)

/-- ITS FALSE NEIGHBOUR: 'it returns false'. Refute it at one input. -/
def storeCountsWrong : ChangeSpec := { name := "storeCounts", fn := fun _ => fun
  | [d1, d2] => { results := [.lit (.bool false)], args := [d1, d2] }
  | _ => none }
def StoreCountsWrongFalsely : Prop := storeCountsRow.holds Tryd.pinned (OpenSpec.ofChange storeCountsWrong)

/-- 'exchequerlaw13.StoreWhere': WHATEVER THE INPUT: true; the input reads as it did. -/
def storeWhereSpec : ChangeSpec := { name := "storeWhere", fn := fun _ => fun
  | [d1, d2, d3] => { results := [.lit (.bool true)], args := [d1, d2, d3] }
  | _ => none }
def storeWhereRow : OpenClaim := { program := "ytkpojedpcabojaadoor", sum := "f28fd936e2826fc28d5c355b622982e8972f42f4217b8072bff90fa738572869", func := "exchequer/exchequerlaw13.StoreWhere", spec := "storeWhere", inPlace := ["slices.overlaps[exchequer/store.held]"], unfollowed := true, recurses := true, named := ["unicode/utf8.first", "unicode/utf8.acceptRanges"], apart := false, laid := [("unicode/utf8.acceptRanges", laid_unicode_utf8_acceptRanges), ("unicode/utf8.first", laid_unicode_utf8_first)] }
def StoreWhereSaid : Prop := storeWhereRow.holds Tryd.pinned (OpenSpec.ofChange storeWhereSpec)

/-- ITS FALSE NEIGHBOUR: 'it returns false'. Refute it at one input. -/
def storeWhereWrong : ChangeSpec := { name := "storeWhere", fn := fun _ => fun
  | [d1, d2, d3] => { results := [.lit (.bool false)], args := [d1, d2, d3] }
  | _ => none }
def StoreWhereWrongFalsely : Prop := storeWhereRow.holds Tryd.pinned (OpenSpec.ofChange storeWhereWrong)

/-- 'exchequerlaw18.QuotaFits': WHATEVER THE INPUT: true; the input reads as it did. -/
def quotaFitsSpec : ChangeSpec := { name := "quotaFits", fn := fun _ => fun
  | [d1, d2, d3] => { results := [.lit (.bool true)], args := [d1, d2, d3] }
  | _ => none }
def quotaFitsRow : OpenClaim := { program := "ytkpojedpcabojaadoor", sum := "f28fd936e2826fc28d5c355b622982e8972f42f4217b8072bff90fa738572869", func := "exchequer/exchequerlaw18.QuotaFits", spec := "quotaFits", inPlace := ["slices.overlaps[exchequer/store.held]"], unfollowed := true, recurses := true, named := ["unicode/utf8.first", "unicode/utf8.acceptRanges"], apart := false, laid := [("unicode/utf8.acceptRanges", laid_unicode_utf8_acceptRanges), ("unicode/utf8.first", laid_unicode_utf8_first)] }
def QuotaFitsSaid : Prop := quotaFitsRow.holds Tryd.pinned (OpenSpec.ofChange quotaFitsSpec)

/-- ITS FALSE NEIGHBOUR: 'it returns false'. Refute it at one input. -/
def quotaFitsWrong : ChangeSpec := { name := "quotaFits", fn := fun _ => fun
  | [d1, d2, d3] => { results := [.lit (.bool false)], args := [d1, d2, d3] }
  | _ => none }
def QuotaFitsWrongFalsely : Prop := quotaFitsRow.holds Tryd.pinned (OpenSpec.ofChange quotaFitsWrong)

/-- 'exchequerlaw13.StoreApart': WHATEVER THE INPUT: true; the input reads as it did. -/
def storeApartSpec : ChangeSpec := { name := "storeApart", fn := fun _ => fun
  | [d1, d2] => { results := [.lit (.bool true)], args := [d1, d2] }
  | _ => none }
def storeApartRow : OpenClaim := { program := "ytkpojedpcabojaadoor", sum := "f28fd936e2826fc28d5c355b622982e8972f42f4217b8072bff90fa738572869", func := "exchequer/exchequerlaw13.StoreApart", spec := "storeApart", inPlace := ["slices.overlaps[exchequer/store.held]"], unfollowed := true, recurses := true, named := ["unicode/utf8.first", "unicode/utf8.acceptRanges"], apart := false, laid := [("unicode/utf8.acceptRanges", laid_unicode_utf8_acceptRanges), ("unicode/utf8.first", laid_unicode_utf8_first)] }
def StoreApartSaid : Prop := storeApartRow.holds Tryd.pinned (OpenSpec.ofChange storeApartSpec)

/-- ITS FALSE NEIGHBOUR: 'it returns false'. Refute it at one input. -/
def storeApartWrong : ChangeSpec := { name := "storeApart", fn := fun _ => fun
  | [d1, d2] => { results := [.lit (.bool false)], args := [d1, d2] }
  | _ => none }
def StoreApartWrongFalsely : Prop := storeApartRow.holds Tryd.pinned (OpenSpec.ofChange storeApartWrong)

/-- 'exchequerlaw13.StorePlays': WHATEVER THE INPUT: true; the input reads as it did. -/
def storePlaysSpec : ChangeSpec := { name := "storePlays", fn := fun _ => fun
  | [d] => { results := [.lit (.bool true)], args := [d] }
  | _ => none }
def storePlaysRow : OpenClaim := { program := "ytkpojedpcabojaadoor", sum := "f28fd936e2826fc28d5c355b622982e8972f42f4217b8072bff90fa738572869", func := "exchequer/exchequerlaw13.StorePlays", spec := "storePlays", inPlace := ["slices.overlaps[exchequer/store.held]"], unfollowed := true, recurses := true, named := ["unicode/utf8.first", "unicode/utf8.acceptRanges"], apart := false, laid := [("unicode/utf8.acceptRanges", laid_unicode_utf8_acceptRanges), ("unicode/utf8.first", laid_unicode_utf8_first)] }
def StorePlaysSaid : Prop := storePlaysRow.holds Tryd.pinned (OpenSpec.ofChange storePlaysSpec)

/-- ITS FALSE NEIGHBOUR: 'it returns false'. Refute it at one input. -/
def storePlaysWrong : ChangeSpec := { name := "storePlays", fn := fun _ => fun
  | [d] => { results := [.lit (.bool false)], args := [d] }
  | _ => none }
def StorePlaysWrongFalsely : Prop := storePlaysRow.holds Tryd.pinned (OpenSpec.ofChange storePlaysWrong)

/-- 'exchequerlaw13.StoreNone': WHATEVER THE INPUT: true; the input reads as it did. -/
def storeNoneSpec : ChangeSpec := { name := "storeNone", fn := fun _ => fun
  | [d] => { results := [.lit (.bool true)], args := [d] }
  | _ => none }
def storeNoneRow : OpenClaim := { program := "ytkpojedpcabojaadoor", sum := "f28fd936e2826fc28d5c355b622982e8972f42f4217b8072bff90fa738572869", func := "exchequer/exchequerlaw13.StoreNone", spec := "storeNone", inPlace := ["slices.overlaps[exchequer/store.held]"], unfollowed := true, recurses := true, named := ["unicode/utf8.first", "unicode/utf8.acceptRanges"], apart := false, laid := [("unicode/utf8.acceptRanges", laid_unicode_utf8_acceptRanges), ("unicode/utf8.first", laid_unicode_utf8_first)] }
def StoreNoneSaid : Prop := storeNoneRow.holds Tryd.pinned (OpenSpec.ofChange storeNoneSpec)

/-- ITS FALSE NEIGHBOUR: 'it returns false'. Refute it at one input. -/
def storeNoneWrong : ChangeSpec := { name := "storeNone", fn := fun _ => fun
  | [d] => { results := [.lit (.bool false)], args := [d] }
  | _ => none }
def StoreNoneWrongFalsely : Prop := storeNoneRow.holds Tryd.pinned (OpenSpec.ofChange storeNoneWrong)

/-- 'exchequerlaw14.TxnRights': WHATEVER THE INPUT: true; the input reads as it did. -/
def txnRightsSpec : ChangeSpec := { name := "txnRights", fn := fun _ => fun
  | [d] => { results := [.lit (.bool true)], args := [d] }
  | _ => none }
def txnRightsRow : OpenClaim := { program := "ytkpojedpcabojaadoor", sum := "f28fd936e2826fc28d5c355b622982e8972f42f4217b8072bff90fa738572869", func := "exchequer/exchequerlaw14.TxnRights", spec := "txnRights", inPlace := ["slices.overlaps[exchequer/store.held]"], unfollowed := true, recurses := true, named := ["unicode/utf8.first", "unicode/utf8.acceptRanges"], apart := false, laid := [("unicode/utf8.acceptRanges", laid_unicode_utf8_acceptRanges), ("unicode/utf8.first", laid_unicode_utf8_first)] }
def TxnRightsSaid : Prop := txnRightsRow.holds Tryd.pinned (OpenSpec.ofChange txnRightsSpec)

/-- ITS FALSE NEIGHBOUR: 'it returns false'. Refute it at one input. -/
def txnRightsWrong : ChangeSpec := { name := "txnRights", fn := fun _ => fun
  | [d] => { results := [.lit (.bool false)], args := [d] }
  | _ => none }
def TxnRightsWrongFalsely : Prop := txnRightsRow.holds Tryd.pinned (OpenSpec.ofChange txnRightsWrong)

/-- 'exchequerlaw14.TxnDone': WHATEVER THE INPUT: true; the input reads as it did. -/
def txnDoneSpec : ChangeSpec := { name := "txnDone", fn := fun _ => fun
  | [d1, d2] => { results := [.lit (.bool true)], args := [d1, d2] }
  | _ => none }
def txnDoneRow : OpenClaim := { program := "ytkpojedpcabojaadoor", sum := "f28fd936e2826fc28d5c355b622982e8972f42f4217b8072bff90fa738572869", func := "exchequer/exchequerlaw14.TxnDone", spec := "txnDone", inPlace := ["slices.overlaps[exchequer/store.held]"], unfollowed := true, recurses := true, named := ["unicode/utf8.first", "unicode/utf8.acceptRanges"], apart := false, laid := [("unicode/utf8.acceptRanges", laid_unicode_utf8_acceptRanges), ("unicode/utf8.first", laid_unicode_utf8_first)] }
def TxnDoneSaid : Prop := txnDoneRow.holds Tryd.pinned (OpenSpec.ofChange txnDoneSpec)

/-- ITS FALSE NEIGHBOUR: 'it returns false'. Refute it at one input. -/
def txnDoneWrong : ChangeSpec := { name := "txnDone", fn := fun _ => fun
  | [d1, d2] => { results := [.lit (.bool false)], args := [d1, d2] }
  | _ => none }
def TxnDoneWrongFalsely : Prop := txnDoneRow.holds Tryd.pinned (OpenSpec.ofChange txnDoneWrong)

/-- 'exchequerlaw14.TxnWithin': WHATEVER THE INPUT: true; the input reads as it did. -/
def txnWithinSpec : ChangeSpec := { name := "txnWithin", fn := fun _ => fun
  | [d1, d2] => { results := [.lit (.bool true)], args := [d1, d2] }
  | _ => none }
def txnWithinRow : OpenClaim := { program := "ytkpojedpcabojaadoor", sum := "f28fd936e2826fc28d5c355b622982e8972f42f4217b8072bff90fa738572869", func := "exchequer/exchequerlaw14.TxnWithin", spec := "txnWithin", inPlace := ["slices.overlaps[exchequer/store.held]"], unfollowed := true, recurses := true, named := ["unicode/utf8.first", "unicode/utf8.acceptRanges"], apart := false, laid := [("unicode/utf8.acceptRanges", laid_unicode_utf8_acceptRanges), ("unicode/utf8.first", laid_unicode_utf8_first)] }
def TxnWithinSaid : Prop := txnWithinRow.holds Tryd.pinned (OpenSpec.ofChange txnWithinSpec)

/-- ITS FALSE NEIGHBOUR: 'it returns false'. Refute it at one input. -/
def txnWithinWrong : ChangeSpec := { name := "txnWithin", fn := fun _ => fun
  | [d1, d2] => { results := [.lit (.bool false)], args := [d1, d2] }
  | _ => none }
def TxnWithinWrongFalsely : Prop := txnWithinRow.holds Tryd.pinned (OpenSpec.ofChange txnWithinWrong)

/-- 'exchequerlaw14.TxnBlind': WHATEVER THE INPUT: true; the input reads as it did. -/
def txnBlindSpec : ChangeSpec := { name := "txnBlind", fn := fun _ => fun
  | [d1, d2, d3] => { results := [.lit (.bool true)], args := [d1, d2, d3] }
  | _ => none }
def txnBlindRow : OpenClaim := { program := "ytkpojedpcabojaadoor", sum := "f28fd936e2826fc28d5c355b622982e8972f42f4217b8072bff90fa738572869", func := "exchequer/exchequerlaw14.TxnBlind", spec := "txnBlind", inPlace := ["slices.overlaps[exchequer/store.held]"], unfollowed := true, recurses := true, named := ["unicode/utf8.first", "unicode/utf8.acceptRanges"], apart := false, laid := [("unicode/utf8.acceptRanges", laid_unicode_utf8_acceptRanges), ("unicode/utf8.first", laid_unicode_utf8_first)] }
def TxnBlindSaid : Prop := txnBlindRow.holds Tryd.pinned (OpenSpec.ofChange txnBlindSpec)

/-- ITS FALSE NEIGHBOUR: 'it returns false'. Refute it at one input. -/
def txnBlindWrong : ChangeSpec := { name := "txnBlind", fn := fun _ => fun
  | [d1, d2, d3] => { results := [.lit (.bool false)], args := [d1, d2, d3] }
  | _ => none }
def TxnBlindWrongFalsely : Prop := txnBlindRow.holds Tryd.pinned (OpenSpec.ofChange txnBlindWrong)

/- THE SECOND FORM. 'bulk': how many values and letters a reading holds, each counted each time it is reached (what is shared counts as often as it is met; a slice's spare places count too). A statement '..UptoSaid' is the law's where the arguments, and the package variables that the reading takes, are together of bulk at most 1048576: NARROWER than '..Said'. Prove '..Said' where nothing that the law and all that it calls make is longer than what came in: it says more and counts as full. Else prove '..UptoSaid'. A law counts once. -/
mutual
def uptoBulk {H : Type} : DataW H → Nat
  | .lit (.string bytes) => bytes.length + 1
  | .lit _ => 1
  | .nil => 1
  | .ptr d => uptoBulk d + 1
  | .slice elems spare => uptoBulkAll elems + uptoBulkAll spare + 1
  | .agg parts => uptoBulkAll parts + 1
  | .iface _ d => uptoBulk d + 1
  | .map entries => uptoBulkEntries entries + 1
  | .held _ => 1
def uptoBulkAll {H : Type} : List (DataW H) → Nat
  | [] => 0
  | d :: r => uptoBulk d + uptoBulkAll r
def uptoBulkEntries {H : Type} : List (Lit × DataW H) → Nat
  | [] => 0
  | x :: r => uptoBulkEntry x + uptoBulkEntries r
def uptoBulkEntry {H : Type} : Lit × DataW H → Nat
  | (.string bytes, d) => bytes.length + uptoBulk d + 1
  | (_, d) => uptoBulk d + 1
 end
def uptoSmall : (H : Type) → List (DataW H) → Bool := fun _ ds => decide (uptoBulkAll ds ≤ 1048576)
def OpenSpec.upto (s : _root_.Go.ChangeSpec) : _root_.Go.OpenSpec := { _root_.Go.OpenSpec.ofChange s with cond := some uptoSmall }

/-- 'exchequerlaw18.QuotaKeeps', WHERE WHAT IT READS IS OF BULK AT MOST 1048576: true; the input reads as it did. -/
def quotaKeepsUptoRow : OpenClaim := { program := "ytkpojedpcabojaadoor", sum := "f28fd936e2826fc28d5c355b622982e8972f42f4217b8072bff90fa738572869", func := "exchequer/exchequerlaw18.QuotaKeeps", spec := "quotaKeeps", inPlace := ["slices.overlaps[exchequer/store.held]"], unfollowed := true, recurses := true, named := ["unicode/utf8.first", "unicode/utf8.acceptRanges"], apart := false, laid := [("unicode/utf8.acceptRanges", laid_unicode_utf8_acceptRanges), ("unicode/utf8.first", laid_unicode_utf8_first)], narrowed := true }
def QuotaKeepsUptoSaid : Prop := quotaKeepsUptoRow.holds Tryd.pinned (OpenSpec.upto quotaKeepsSpec)

/-- 'exchequerlaw18.QuotaLess', WHERE WHAT IT READS IS OF BULK AT MOST 1048576: true; the input reads as it did. -/
def quotaLessUptoRow : OpenClaim := { program := "ytkpojedpcabojaadoor", sum := "f28fd936e2826fc28d5c355b622982e8972f42f4217b8072bff90fa738572869", func := "exchequer/exchequerlaw18.QuotaLess", spec := "quotaLess", inPlace := ["slices.overlaps[exchequer/store.held]"], unfollowed := true, recurses := true, named := ["unicode/utf8.first", "unicode/utf8.acceptRanges"], apart := false, laid := [("unicode/utf8.acceptRanges", laid_unicode_utf8_acceptRanges), ("unicode/utf8.first", laid_unicode_utf8_first)], narrowed := true }
def QuotaLessUptoSaid : Prop := quotaLessUptoRow.holds Tryd.pinned (OpenSpec.upto quotaLessSpec)

/-- 'exchequerlaw18.QuotaAfter', WHERE WHAT IT READS IS OF BULK AT MOST 1048576: true; the input reads as it did. -/
def quotaAfterUptoRow : OpenClaim := { program := "ytkpojedpcabojaadoor", sum := "f28fd936e2826fc28d5c355b622982e8972f42f4217b8072bff90fa738572869", func := "exchequer/exchequerlaw18.QuotaAfter", spec := "quotaAfter", inPlace := ["slices.overlaps[exchequer/store.held]"], unfollowed := true, recurses := true, named := ["unicode/utf8.first", "unicode/utf8.acceptRanges"], apart := false, laid := [("unicode/utf8.acceptRanges", laid_unicode_utf8_acceptRanges), ("unicode/utf8.first", laid_unicode_utf8_first)], narrowed := true }
def QuotaAfterUptoSaid : Prop := quotaAfterUptoRow.holds Tryd.pinned (OpenSpec.upto quotaAfterSpec)

/-- 'exchequerlaw13.StoreOld', WHERE WHAT IT READS IS OF BULK AT MOST 1048576: true; the input reads as it did. -/
def storeOldUptoRow : OpenClaim := { program := "ytkpojedpcabojaadoor", sum := "f28fd936e2826fc28d5c355b622982e8972f42f4217b8072bff90fa738572869", func := "exchequer/exchequerlaw13.StoreOld", spec := "storeOld", inPlace := ["slices.overlaps[exchequer/store.held]"], unfollowed := true, recurses := true, named := ["unicode/utf8.first", "unicode/utf8.acceptRanges"], apart := false, laid := [("unicode/utf8.acceptRanges", laid_unicode_utf8_acceptRanges), ("unicode/utf8.first", laid_unicode_utf8_first)], narrowed := true }
def StoreOldUptoSaid : Prop := storeOldUptoRow.holds Tryd.pinned (OpenSpec.upto storeOldSpec)

/-- 'exchequerlaw13.StoreCounts', WHERE WHAT IT READS IS OF BULK AT MOST 1048576: true; the input reads as it did. -/
def storeCountsUptoRow : OpenClaim := { program := "ytkpojedpcabojaadoor", sum := "f28fd936e2826fc28d5c355b622982e8972f42f4217b8072bff90fa738572869", func := "exchequer/exchequerlaw13.StoreCounts", spec := "storeCounts", inPlace := ["slices.overlaps[exchequer/store.held]"], unfollowed := true, recurses := true, named := ["unicode/utf8.first", "unicode/utf8.acceptRanges"], apart := false, laid := [("unicode/utf8.acceptRanges", laid_unicode_utf8_acceptRanges), ("unicode/utf8.first", laid_unicode_utf8_first)], narrowed := true }
def StoreCountsUptoSaid : Prop := storeCountsUptoRow.holds Tryd.pinned (OpenSpec.upto storeCountsSpec)

/-- 'exchequerlaw13.StoreWhere', WHERE WHAT IT READS IS OF BULK AT MOST 1048576: true; the input reads as it did. -/
def storeWhereUptoRow : OpenClaim := { program := "ytkpojedpcabojaadoor", sum := "f28fd936e2826fc28d5c355b622982e8972f42f4217b8072bff90fa738572869", func := "exchequer/exchequerlaw13.StoreWhere", spec := "storeWhere", inPlace := ["slices.overlaps[exchequer/store.held]"], unfollowed := true, recurses := true, named := ["unicode/utf8.first", "unicode/utf8.acceptRanges"], apart := false, laid := [("unicode/utf8.acceptRanges", laid_unicode_utf8_acceptRanges), ("unicode/utf8.first", laid_unicode_utf8_first)], narrowed := true }
def StoreWhereUptoSaid : Prop := storeWhereUptoRow.holds Tryd.pinned (OpenSpec.upto storeWhereSpec)

/-- 'exchequerlaw18.QuotaFits', WHERE WHAT IT READS IS OF BULK AT MOST 1048576: true; the input reads as it did. -/
def quotaFitsUptoRow : OpenClaim := { program := "ytkpojedpcabojaadoor", sum := "f28fd936e2826fc28d5c355b622982e8972f42f4217b8072bff90fa738572869", func := "exchequer/exchequerlaw18.QuotaFits", spec := "quotaFits", inPlace := ["slices.overlaps[exchequer/store.held]"], unfollowed := true, recurses := true, named := ["unicode/utf8.first", "unicode/utf8.acceptRanges"], apart := false, laid := [("unicode/utf8.acceptRanges", laid_unicode_utf8_acceptRanges), ("unicode/utf8.first", laid_unicode_utf8_first)], narrowed := true }
def QuotaFitsUptoSaid : Prop := quotaFitsUptoRow.holds Tryd.pinned (OpenSpec.upto quotaFitsSpec)

/-- 'exchequerlaw13.StoreApart', WHERE WHAT IT READS IS OF BULK AT MOST 1048576: true; the input reads as it did. -/
def storeApartUptoRow : OpenClaim := { program := "ytkpojedpcabojaadoor", sum := "f28fd936e2826fc28d5c355b622982e8972f42f4217b8072bff90fa738572869", func := "exchequer/exchequerlaw13.StoreApart", spec := "storeApart", inPlace := ["slices.overlaps[exchequer/store.held]"], unfollowed := true, recurses := true, named := ["unicode/utf8.first", "unicode/utf8.acceptRanges"], apart := false, laid := [("unicode/utf8.acceptRanges", laid_unicode_utf8_acceptRanges), ("unicode/utf8.first", laid_unicode_utf8_first)], narrowed := true }
def StoreApartUptoSaid : Prop := storeApartUptoRow.holds Tryd.pinned (OpenSpec.upto storeApartSpec)

/-- 'exchequerlaw13.StorePlays', WHERE WHAT IT READS IS OF BULK AT MOST 1048576: true; the input reads as it did. -/
def storePlaysUptoRow : OpenClaim := { program := "ytkpojedpcabojaadoor", sum := "f28fd936e2826fc28d5c355b622982e8972f42f4217b8072bff90fa738572869", func := "exchequer/exchequerlaw13.StorePlays", spec := "storePlays", inPlace := ["slices.overlaps[exchequer/store.held]"], unfollowed := true, recurses := true, named := ["unicode/utf8.first", "unicode/utf8.acceptRanges"], apart := false, laid := [("unicode/utf8.acceptRanges", laid_unicode_utf8_acceptRanges), ("unicode/utf8.first", laid_unicode_utf8_first)], narrowed := true }
def StorePlaysUptoSaid : Prop := storePlaysUptoRow.holds Tryd.pinned (OpenSpec.upto storePlaysSpec)

/-- 'exchequerlaw13.StoreNone', WHERE WHAT IT READS IS OF BULK AT MOST 1048576: true; the input reads as it did. -/
def storeNoneUptoRow : OpenClaim := { program := "ytkpojedpcabojaadoor", sum := "f28fd936e2826fc28d5c355b622982e8972f42f4217b8072bff90fa738572869", func := "exchequer/exchequerlaw13.StoreNone", spec := "storeNone", inPlace := ["slices.overlaps[exchequer/store.held]"], unfollowed := true, recurses := true, named := ["unicode/utf8.first", "unicode/utf8.acceptRanges"], apart := false, laid := [("unicode/utf8.acceptRanges", laid_unicode_utf8_acceptRanges), ("unicode/utf8.first", laid_unicode_utf8_first)], narrowed := true }
def StoreNoneUptoSaid : Prop := storeNoneUptoRow.holds Tryd.pinned (OpenSpec.upto storeNoneSpec)

/-- 'exchequerlaw14.TxnRights', WHERE WHAT IT READS IS OF BULK AT MOST 1048576: true; the input reads as it did. -/
def txnRightsUptoRow : OpenClaim := { program := "ytkpojedpcabojaadoor", sum := "f28fd936e2826fc28d5c355b622982e8972f42f4217b8072bff90fa738572869", func := "exchequer/exchequerlaw14.TxnRights", spec := "txnRights", inPlace := ["slices.overlaps[exchequer/store.held]"], unfollowed := true, recurses := true, named := ["unicode/utf8.first", "unicode/utf8.acceptRanges"], apart := false, laid := [("unicode/utf8.acceptRanges", laid_unicode_utf8_acceptRanges), ("unicode/utf8.first", laid_unicode_utf8_first)], narrowed := true }
def TxnRightsUptoSaid : Prop := txnRightsUptoRow.holds Tryd.pinned (OpenSpec.upto txnRightsSpec)

/-- 'exchequerlaw14.TxnDone', WHERE WHAT IT READS IS OF BULK AT MOST 1048576: true; the input reads as it did. -/
def txnDoneUptoRow : OpenClaim := { program := "ytkpojedpcabojaadoor", sum := "f28fd936e2826fc28d5c355b622982e8972f42f4217b8072bff90fa738572869", func := "exchequer/exchequerlaw14.TxnDone", spec := "txnDone", inPlace := ["slices.overlaps[exchequer/store.held]"], unfollowed := true, recurses := true, named := ["unicode/utf8.first", "unicode/utf8.acceptRanges"], apart := false, laid := [("unicode/utf8.acceptRanges", laid_unicode_utf8_acceptRanges), ("unicode/utf8.first", laid_unicode_utf8_first)], narrowed := true }
def TxnDoneUptoSaid : Prop := txnDoneUptoRow.holds Tryd.pinned (OpenSpec.upto txnDoneSpec)

/-- 'exchequerlaw14.TxnWithin', WHERE WHAT IT READS IS OF BULK AT MOST 1048576: true; the input reads as it did. -/
def txnWithinUptoRow : OpenClaim := { program := "ytkpojedpcabojaadoor", sum := "f28fd936e2826fc28d5c355b622982e8972f42f4217b8072bff90fa738572869", func := "exchequer/exchequerlaw14.TxnWithin", spec := "txnWithin", inPlace := ["slices.overlaps[exchequer/store.held]"], unfollowed := true, recurses := true, named := ["unicode/utf8.first", "unicode/utf8.acceptRanges"], apart := false, laid := [("unicode/utf8.acceptRanges", laid_unicode_utf8_acceptRanges), ("unicode/utf8.first", laid_unicode_utf8_first)], narrowed := true }
def TxnWithinUptoSaid : Prop := txnWithinUptoRow.holds Tryd.pinned (OpenSpec.upto txnWithinSpec)

/-- 'exchequerlaw14.TxnBlind', WHERE WHAT IT READS IS OF BULK AT MOST 1048576: true; the input reads as it did. -/
def txnBlindUptoRow : OpenClaim := { program := "ytkpojedpcabojaadoor", sum := "f28fd936e2826fc28d5c355b622982e8972f42f4217b8072bff90fa738572869", func := "exchequer/exchequerlaw14.TxnBlind", spec := "txnBlind", inPlace := ["slices.overlaps[exchequer/store.held]"], unfollowed := true, recurses := true, named := ["unicode/utf8.first", "unicode/utf8.acceptRanges"], apart := false, laid := [("unicode/utf8.acceptRanges", laid_unicode_utf8_acceptRanges), ("unicode/utf8.first", laid_unicode_utf8_first)], narrowed := true }
def TxnBlindUptoSaid : Prop := txnBlindUptoRow.holds Tryd.pinned (OpenSpec.upto txnBlindSpec)

end Rows
end Go.Proofs.YtkpojedpcabojaaDoor
