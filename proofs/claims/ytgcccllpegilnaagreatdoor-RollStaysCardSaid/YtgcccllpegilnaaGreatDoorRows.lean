/-
  NARROWER THAN 'FOR EVERY INPUT', by the rows' own cells (each row's printed sentence says how): RollDoes: laid · RollStays: laid · RollRevokes: laid · RollRights: laid · RollTenants: laid.
  DERIVED. THE GIVEN ROWS OF THIS SEAT. 5 by the template 'for every input the law returns true; each argument reads behind the call as it read before'; 0 by the template 'total and deterministic' (their statements: YtgcccllpegilnaaGreatDoorTotals.lean).
  GIVEN WITH THE SEED: the statements are not yours to turn. If you find one false, say at which input.
  Laid BY PROGRAM, IN A SANDBOX (cutbox-rows.mjs): the forced cells as the released guide's own fill.sh prints them over the translation 1c80523629b3f010… (all of the seat's roots in one cut). By AI agents, Wed Nov 11 2026. No macro, syntax, notation, axiom, sorry.
-/
import Derived.Test.YtgcccllpegilnaaGreatDoorChecked
import GoSem.PinnedTables
import GoSem.Claim
import GoSem.ClaimJoined
import GoSem.ClaimMapViews
import Derived.JoinedTies
import Derived.KernelRfl
namespace Go.Proofs.YtgcccllpegilnaaGreatDoor
/- THE CELL 'sum', in the pinned program and in every row, IS THE sha256 OF THE DUMP (.gsa) THAT YtgcccllpegilnaaGreatDoorProg.lean LOADS. Nothing in Lean hashes anything: it is a label: what it is worth is what the hold of that sum in a sandbox is worth. -/
noncomputable def Tryz.pinned : Pinned := { name := "ytgcccllpegilnaagreatdoor", sum := "1c80523629b3f010ae731624835109fc61466d94fd06434d7a052e1cddcf5f2e", checked := Tryz.checked }
namespace Rows
def none {H : Type} : Left H := { results := [], args := [] }

/- WHAT THE LISTED PACKAGE-LEVEL VARIABLES READ AS WHEN THE CALL BEGINS. Each datum BY PROGRAM (the guide's laid-datum.mjs) off the statement by which the dump's own 'gosem.cut.vars' lays the variable. In a bare row this is a premise. The card (YtgcccllpegilnaaGreatDoorCards.lean) ties it to the program's text. -/
def laid_unicode_utf8_acceptRanges {H : Type} : DataW H := .agg [.agg [.lit (.int .u8 128), .lit (.int .u8 191)], .agg [.lit (.int .u8 160), .lit (.int .u8 191)], .agg [.lit (.int .u8 128), .lit (.int .u8 159)], .agg [.lit (.int .u8 144), .lit (.int .u8 191)], .agg [.lit (.int .u8 128), .lit (.int .u8 143)], .agg [.lit (.int .u8 0), .lit (.int .u8 0)], .agg [.lit (.int .u8 0), .lit (.int .u8 0)], .agg [.lit (.int .u8 0), .lit (.int .u8 0)], .agg [.lit (.int .u8 0), .lit (.int .u8 0)], .agg [.lit (.int .u8 0), .lit (.int .u8 0)], .agg [.lit (.int .u8 0), .lit (.int .u8 0)], .agg [.lit (.int .u8 0), .lit (.int .u8 0)], .agg [.lit (.int .u8 0), .lit (.int .u8 0)], .agg [.lit (.int .u8 0), .lit (.int .u8 0)], .agg [.lit (.int .u8 0), .lit (.int .u8 0)], .agg [.lit (.int .u8 0), .lit (.int .u8 0)]]
/-- One of Go's own tables, pinned by name: the form's constant. -/
def laid_unicode_utf8_first : DataW Unit := Go.Pinned.utf8First

/-- 'exchequerlaw15.RollDoes': WHATEVER THE INPUT: true; the input reads as it did. -/
def rollDoesSpec : ChangeSpec := { name := "rollDoes", fn := fun _ => fun
  | [d] => { results := [.lit (.bool true)], args := [d] }
  | _ => none }
def rollDoesRow : OpenClaim := { program := "ytgcccllpegilnaagreatdoor", sum := "1c80523629b3f010ae731624835109fc61466d94fd06434d7a052e1cddcf5f2e", func := "exchequer/exchequerlaw15.RollDoes", spec := "rollDoes", inPlace := ["slices.overlaps[exchequer/api.Tenant]", "slices.overlaps[exchequer/api.User]", "slices.overlaps[string]", "slices.overlaps[exchequer/api.Role]"], unfollowed := true, recurses := true, named := ["unicode/utf8.first", "unicode/utf8.acceptRanges"], apart := false, laid := [("unicode/utf8.acceptRanges", laid_unicode_utf8_acceptRanges), ("unicode/utf8.first", laid_unicode_utf8_first)] }
def RollDoesSaid : Prop := rollDoesRow.holds Tryz.pinned (OpenSpec.ofChange rollDoesSpec)

/-- ITS FALSE NEIGHBOUR: 'it returns false'. Refute it at one input. -/
def rollDoesWrong : ChangeSpec := { name := "rollDoes", fn := fun _ => fun
  | [d] => { results := [.lit (.bool false)], args := [d] }
  | _ => none }
def RollDoesWrongFalsely : Prop := rollDoesRow.holds Tryz.pinned (OpenSpec.ofChange rollDoesWrong)

/-- 'exchequerlaw15.RollStays': WHATEVER THE INPUT: true; the input reads as it did. -/
def rollStaysSpec : ChangeSpec := { name := "rollStays", fn := fun _ => fun
  | [d1, d2] => { results := [.lit (.bool true)], args := [d1, d2] }
  | _ => none }
def rollStaysRow : OpenClaim := { program := "ytgcccllpegilnaagreatdoor", sum := "1c80523629b3f010ae731624835109fc61466d94fd06434d7a052e1cddcf5f2e", func := "exchequer/exchequerlaw15.RollStays", spec := "rollStays", inPlace := ["slices.overlaps[exchequer/api.Tenant]", "slices.overlaps[exchequer/api.User]", "slices.overlaps[string]", "slices.overlaps[exchequer/api.Role]"], unfollowed := true, recurses := true, named := ["unicode/utf8.first", "unicode/utf8.acceptRanges"], apart := false, laid := [("unicode/utf8.acceptRanges", laid_unicode_utf8_acceptRanges), ("unicode/utf8.first", laid_unicode_utf8_first)] }
def RollStaysSaid : Prop := rollStaysRow.holds Tryz.pinned (OpenSpec.ofChange rollStaysSpec)

/-- ITS FALSE NEIGHBOUR: 'it returns false'. Refute it at one input. -/
def rollStaysWrong : ChangeSpec := { name := "rollStays", fn := fun _ => fun
  | [d1, d2] => { results := [.lit (.bool false)], args := [d1, d2] }
  | _ => none }
def RollStaysWrongFalsely : Prop := rollStaysRow.holds Tryz.pinned (OpenSpec.ofChange rollStaysWrong)

/-- 'exchequerlaw15.RollRevokes': WHATEVER THE INPUT: true; the input reads as it did. -/
def rollRevokesSpec : ChangeSpec := { name := "rollRevokes", fn := fun _ => fun
  | [d1, d2, d3] => { results := [.lit (.bool true)], args := [d1, d2, d3] }
  | _ => none }
def rollRevokesRow : OpenClaim := { program := "ytgcccllpegilnaagreatdoor", sum := "1c80523629b3f010ae731624835109fc61466d94fd06434d7a052e1cddcf5f2e", func := "exchequer/exchequerlaw15.RollRevokes", spec := "rollRevokes", inPlace := ["slices.overlaps[exchequer/api.Tenant]", "slices.overlaps[exchequer/api.User]", "slices.overlaps[string]", "slices.overlaps[exchequer/api.Role]"], unfollowed := true, recurses := true, named := ["unicode/utf8.first", "unicode/utf8.acceptRanges"], apart := false, laid := [("unicode/utf8.acceptRanges", laid_unicode_utf8_acceptRanges), ("unicode/utf8.first", laid_unicode_utf8_first)] }
def RollRevokesSaid : Prop := rollRevokesRow.holds Tryz.pinned (OpenSpec.ofChange rollRevokesSpec)

/-- ITS FALSE NEIGHBOUR: 'it returns false'. Refute it at one input. -/
def rollRevokesWrong : ChangeSpec := { name := "rollRevokes", fn := fun _ => fun
  | [d1, d2, d3] => { results := [.lit (.bool false)], args := [d1, d2, d3] }
  | _ => none }
def RollRevokesWrongFalsely : Prop := rollRevokesRow.holds Tryz.pinned (OpenSpec.ofChange rollRevokesWrong)

/-- 'exchequerlaw15.RollRights': WHATEVER THE INPUT: true; the input reads as it did. -/
def rollRightsSpec : ChangeSpec := { name := "rollRights", fn := fun _ => fun
  | [d1, d2] => { results := [.lit (.bool true)], args := [d1, d2] }
  | _ => none }
def rollRightsRow : OpenClaim := { program := "ytgcccllpegilnaagreatdoor", sum := "1c80523629b3f010ae731624835109fc61466d94fd06434d7a052e1cddcf5f2e", func := "exchequer/exchequerlaw15.RollRights", spec := "rollRights", inPlace := ["slices.overlaps[exchequer/api.Tenant]", "slices.overlaps[exchequer/api.User]", "slices.overlaps[string]", "slices.overlaps[exchequer/api.Role]"], unfollowed := true, recurses := true, named := ["unicode/utf8.first", "unicode/utf8.acceptRanges"], apart := false, laid := [("unicode/utf8.acceptRanges", laid_unicode_utf8_acceptRanges), ("unicode/utf8.first", laid_unicode_utf8_first)] }
def RollRightsSaid : Prop := rollRightsRow.holds Tryz.pinned (OpenSpec.ofChange rollRightsSpec)

/-- ITS FALSE NEIGHBOUR: 'it returns false'. Refute it at one input. -/
def rollRightsWrong : ChangeSpec := { name := "rollRights", fn := fun _ => fun
  | [d1, d2] => { results := [.lit (.bool false)], args := [d1, d2] }
  | _ => none }
def RollRightsWrongFalsely : Prop := rollRightsRow.holds Tryz.pinned (OpenSpec.ofChange rollRightsWrong)

/-- 'exchequerlaw15.RollTenants': WHATEVER THE INPUT: true; the input reads as it did. -/
def rollTenantsSpec : ChangeSpec := { name := "rollTenants", fn := fun _ => fun
  | [d] => { results := [.lit (.bool true)], args := [d] }
  | _ => none }
def rollTenantsRow : OpenClaim := { program := "ytgcccllpegilnaagreatdoor", sum := "1c80523629b3f010ae731624835109fc61466d94fd06434d7a052e1cddcf5f2e", func := "exchequer/exchequerlaw15.RollTenants", spec := "rollTenants", inPlace := ["slices.overlaps[exchequer/api.Tenant]", "slices.overlaps[exchequer/api.User]", "slices.overlaps[string]", "slices.overlaps[exchequer/api.Role]"], unfollowed := true, recurses := true, named := ["unicode/utf8.first", "unicode/utf8.acceptRanges"], apart := false, laid := [("unicode/utf8.acceptRanges", laid_unicode_utf8_acceptRanges), ("unicode/utf8.first", laid_unicode_utf8_first)] }
def RollTenantsSaid : Prop := rollTenantsRow.holds Tryz.pinned (OpenSpec.ofChange rollTenantsSpec)

/-- ITS FALSE NEIGHBOUR: 'it returns false'. Refute it at one input. -/
def rollTenantsWrong : ChangeSpec := { name := "rollTenants", fn := fun _ => fun
  | [d] => { results := [.lit (.bool false)], args := [d] }
  | _ => none }
def RollTenantsWrongFalsely : Prop := rollTenantsRow.holds Tryz.pinned (OpenSpec.ofChange rollTenantsWrong)

/- THE SECOND FORM. 'bulk': how many values and letters a reading holds, each counted each time it is reached (what is shared counts as often as it is met; a slice's spare places count too). A statement '..UptoSaid' is the law's where the arguments, and the package variables that the reading takes, are together of bulk at most 1048576: NARROWER than '..Said'. Prove '..Said' where nothing that the law and all that it calls make is longer than what came in: it says more and counts as full. Else prove '..UptoSaid'. A law counts once. -/
mutual
def uptoBulk {H : Type} : DataW H → Nat
  | .lit (.string bytes) => bytes.length + 1
  | .lit _ => 1
  | .nil => 1
  | .ptr d => uptoBulk d + 1
  | .slice elems spare => uptoBulkAll elems + uptoBulkAll spare + 1
  | .agg parts => uptoBulkAll parts + 1
  | .iface _ d => uptoBulk d + 1
  | .map entries => uptoBulkEntries entries + 1
  | .held _ => 1
def uptoBulkAll {H : Type} : List (DataW H) → Nat
  | [] => 0
  | d :: r => uptoBulk d + uptoBulkAll r
def uptoBulkEntries {H : Type} : List (Lit × DataW H) → Nat
  | [] => 0
  | x :: r => uptoBulkEntry x + uptoBulkEntries r
def uptoBulkEntry {H : Type} : Lit × DataW H → Nat
  | (.string bytes, d) => bytes.length + uptoBulk d + 1
  | (_, d) => uptoBulk d + 1
 end
def uptoSmall : (H : Type) → List (DataW H) → Bool := fun _ ds => decide (uptoBulkAll ds ≤ 1048576)
def OpenSpec.upto (s : _root_.Go.ChangeSpec) : _root_.Go.OpenSpec := { _root_.Go.OpenSpec.ofChange s with cond := some uptoSmall }

/-- 'exchequerlaw15.RollDoes', WHERE WHAT IT READS IS OF BULK AT MOST 1048576: true; the input reads as it did. -/
def rollDoesUptoRow : OpenClaim := { program := "ytgcccllpegilnaagreatdoor", sum := "1c80523629b3f010ae731624835109fc61466d94fd06434d7a052e1cddcf5f2e", func := "exchequer/exchequerlaw15.RollDoes", spec := "rollDoes", inPlace := ["slices.overlaps[exchequer/api.Tenant]", "slices.overlaps[exchequer/api.User]", "slices.overlaps[string]", "slices.overlaps[exchequer/api.Role]"], unfollowed := true, recurses := true, named := ["unicode/utf8.first", "unicode/utf8.acceptRanges"], apart := false, laid := [("unicode/utf8.acceptRanges", laid_unicode_utf8_acceptRanges), ("unicode/utf8.first", laid_unicode_utf8_first)], narrowed := true }
def RollDoesUptoSaid : Prop := rollDoesUptoRow.holds Tryz.pinned (OpenSpec.upto rollDoesSpec)

/-- 'exchequerlaw15.RollStays', WHERE WHAT IT READS IS OF BULK AT MOST 1048576: true; the input reads as it did. -/
def rollStaysUptoRow : OpenClaim := { program := "ytgcccllpegilnaagreatdoor", sum := "1c80523629b3f010ae731624835109fc61466d94fd06434d7a052e1cddcf5f2e", func := "exchequer/exchequerlaw15.RollStays", spec := "rollStays", inPlace := ["slices.overlaps[exchequer/api.Tenant]", "slices.overlaps[exchequer/api.User]", "slices.overlaps[string]", "slices.overlaps[exchequer/api.Role]"], unfollowed := true, recurses := true, named := ["unicode/utf8.first", "unicode/utf8.acceptRanges"], apart := false, laid := [("unicode/utf8.acceptRanges", laid_unicode_utf8_acceptRanges), ("unicode/utf8.first", laid_unicode_utf8_first)], narrowed := true }
def RollStaysUptoSaid : Prop := rollStaysUptoRow.holds Tryz.pinned (OpenSpec.upto rollStaysSpec)

/-- 'exchequerlaw15.RollRevokes', WHERE WHAT IT READS IS OF BULK AT MOST 1048576: true; the input reads as it did. -/
def rollRevokesUptoRow : OpenClaim := { program := "ytgcccllpegilnaagreatdoor", sum := "1c80523629b3f010ae731624835109fc61466d94fd06434d7a052e1cddcf5f2e", func := "exchequer/exchequerlaw15.RollRevokes", spec := "rollRevokes", inPlace := ["slices.overlaps[exchequer/api.Tenant]", "slices.overlaps[exchequer/api.User]", "slices.overlaps[string]", "slices.overlaps[exchequer/api.Role]"], unfollowed := true, recurses := true, named := ["unicode/utf8.first", "unicode/utf8.acceptRanges"], apart := false, laid := [("unicode/utf8.acceptRanges", laid_unicode_utf8_acceptRanges), ("unicode/utf8.first", laid_unicode_utf8_first)], narrowed := true }
def RollRevokesUptoSaid : Prop := rollRevokesUptoRow.holds Tryz.pinned (OpenSpec.upto rollRevokesSpec)

/-- 'exchequerlaw15.RollRights', WHERE WHAT IT READS IS OF BULK AT MOST 1048576: true; the input reads as it did. -/
def rollRightsUptoRow : OpenClaim := { program := "ytgcccllpegilnaagreatdoor", sum := "1c80523629b3f010ae731624835109fc61466d94fd06434d7a052e1cddcf5f2e", func := "exchequer/exchequerlaw15.RollRights", spec := "rollRights", inPlace := ["slices.overlaps[exchequer/api.Tenant]", "slices.overlaps[exchequer/api.User]", "slices.overlaps[string]", "slices.overlaps[exchequer/api.Role]"], unfollowed := true, recurses := true, named := ["unicode/utf8.first", "unicode/utf8.acceptRanges"], apart := false, laid := [("unicode/utf8.acceptRanges", laid_unicode_utf8_acceptRanges), ("unicode/utf8.first", laid_unicode_utf8_first)], narrowed := true }
def RollRightsUptoSaid : Prop := rollRightsUptoRow.holds Tryz.pinned (OpenSpec.upto rollRightsSpec)

/-- 'exchequerlaw15.RollTenants', WHERE WHAT IT READS IS OF BULK AT MOST 1048576: true; the input reads as it did. -/
def rollTenantsUptoRow : OpenClaim := { program := "ytgcccllpegilnaagreatdoor", sum := "1c80523629b3f010ae731624835109fc61466d94fd06434d7a052e1cddcf5f2e", func := "exchequer/exchequerlaw15.RollTenants", spec := "rollTenants", inPlace := ["slices.overlaps[exchequer/api.Tenant]", "slices.overlaps[exchequer/api.User]", "slices.overlaps[string]", "slices.overlaps[exchequer/api.Role]"], unfollowed := true, recurses := true, named := ["unicode/utf8.first", "unicode/utf8.acceptRanges"], apart := false, laid := [("unicode/utf8.acceptRanges", laid_unicode_utf8_acceptRanges), ("unicode/utf8.first", laid_unicode_utf8_first)], narrowed := true }
def RollTenantsUptoSaid : Prop := rollTenantsUptoRow.holds Tryz.pinned (OpenSpec.upto rollTenantsSpec)

end Rows
end Go.Proofs.YtgcccllpegilnaaGreatDoor
