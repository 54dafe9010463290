/-
  No cell of these rows narrows 'for every input' (looked for: loops, veiled, ifaces, maps, wideKeys, modest, calm, conditions, laid).
  DERIVED. THE GIVEN ROWS OF THIS SEAT. 7 by the template 'for every input the law returns true; each argument reads behind the call as it read before'; 0 by the template 'total and deterministic' (their statements: YtmfdopkcaeokeaaTotals.lean).
  GIVEN WITH THE SEED: the statements are not yours to turn. If you find one false, say at which input.
  Laid BY PROGRAM, IN A SANDBOX (cutbox-rows.mjs): the forced cells as the released guide's own fill.sh prints them over the translation bdc237ec21504246… (all of the seat's roots in one cut). By AI agents, Wed Nov 11 2026. No macro, syntax, notation, axiom, sorry.
-/
import Derived.Test.YtmfdopkcaeokeaaChecked
import GoSem.Claim
import GoSem.ClaimJoined
import GoSem.ClaimMapViews
import Derived.JoinedTies
import Derived.KernelRfl
namespace Go.Proofs.Ytmfdopkcaeokeaa
/- THE CELL 'sum', in the pinned program and in every row, IS THE sha256 OF THE DUMP (.gsa) THAT YtmfdopkcaeokeaaProg.lean LOADS. Nothing in Lean hashes anything: it is a label: what it is worth is what the hold of that sum in a sandbox is worth. -/
noncomputable def Try.pinned : Pinned := { name := "ytmfdopkcaeokeaa", sum := "bdc237ec215042461b0f272a2e6d539079224889b0f5fc42adb128268ac1c38d", checked := Try.checked }
namespace Rows
def none {H : Type} : Left H := { results := [], args := [] }

/-- 'exchequerlaw12.RaftMakes': WHATEVER THE INPUT: true; the input reads as it did. -/
def raftMakesSpec : ChangeSpec := { name := "raftMakes", fn := fun _ => fun
  | [d1, d2, d3] => { results := [.lit (.bool true)], args := [d1, d2, d3] }
  | _ => none }
def raftMakesRow : OpenClaim := { program := "ytmfdopkcaeokeaa", sum := "bdc237ec215042461b0f272a2e6d539079224889b0f5fc42adb128268ac1c38d", func := "exchequer/exchequerlaw12.RaftMakes", spec := "raftMakes", unfollowed := true, recurses := true, apart := false }
def RaftMakesSaid : Prop := raftMakesRow.holds Try.pinned (OpenSpec.ofChange raftMakesSpec)

/-- ITS FALSE NEIGHBOUR: 'it returns false'. Refute it at one input. -/
def raftMakesWrong : ChangeSpec := { name := "raftMakes", fn := fun _ => fun
  | [d1, d2, d3] => { results := [.lit (.bool false)], args := [d1, d2, d3] }
  | _ => none }
def RaftMakesWrongFalsely : Prop := raftMakesRow.holds Try.pinned (OpenSpec.ofChange raftMakesWrong)

/-- 'exchequerlaw12.RaftOne': WHATEVER THE INPUT: true; the input reads as it did. -/
def raftOneSpec : ChangeSpec := { name := "raftOne", fn := fun _ => fun
  | [d1, d2] => { results := [.lit (.bool true)], args := [d1, d2] }
  | _ => none }
def raftOneRow : OpenClaim := { program := "ytmfdopkcaeokeaa", sum := "bdc237ec215042461b0f272a2e6d539079224889b0f5fc42adb128268ac1c38d", func := "exchequer/exchequerlaw12.RaftOne", spec := "raftOne", unfollowed := true, recurses := true, apart := false }
def RaftOneSaid : Prop := raftOneRow.holds Try.pinned (OpenSpec.ofChange raftOneSpec)

/-- ITS FALSE NEIGHBOUR: 'it returns false'. Refute it at one input. -/
def raftOneWrong : ChangeSpec := { name := "raftOne", fn := fun _ => fun
  | [d1, d2] => { results := [.lit (.bool false)], args := [d1, d2] }
  | _ => none }
def RaftOneWrongFalsely : Prop := raftOneRow.holds Try.pinned (OpenSpec.ofChange raftOneWrong)

/-- 'exchequerlaw12.RaftLogs': WHATEVER THE INPUT: true; the input reads as it did. -/
def raftLogsSpec : ChangeSpec := { name := "raftLogs", fn := fun _ => fun
  | [d1, d2] => { results := [.lit (.bool true)], args := [d1, d2] }
  | _ => none }
def raftLogsRow : OpenClaim := { program := "ytmfdopkcaeokeaa", sum := "bdc237ec215042461b0f272a2e6d539079224889b0f5fc42adb128268ac1c38d", func := "exchequer/exchequerlaw12.RaftLogs", spec := "raftLogs", unfollowed := true, recurses := true, apart := false }
def RaftLogsSaid : Prop := raftLogsRow.holds Try.pinned (OpenSpec.ofChange raftLogsSpec)

/-- ITS FALSE NEIGHBOUR: 'it returns false'. Refute it at one input. -/
def raftLogsWrong : ChangeSpec := { name := "raftLogs", fn := fun _ => fun
  | [d1, d2] => { results := [.lit (.bool false)], args := [d1, d2] }
  | _ => none }
def RaftLogsWrongFalsely : Prop := raftLogsRow.holds Try.pinned (OpenSpec.ofChange raftLogsWrong)

/-- 'exchequerlaw12.RaftKeeps': WHATEVER THE INPUT: true; the input reads as it did. -/
def raftKeepsSpec : ChangeSpec := { name := "raftKeeps", fn := fun _ => fun
  | [d1, d2] => { results := [.lit (.bool true)], args := [d1, d2] }
  | _ => none }
def raftKeepsRow : OpenClaim := { program := "ytmfdopkcaeokeaa", sum := "bdc237ec215042461b0f272a2e6d539079224889b0f5fc42adb128268ac1c38d", func := "exchequer/exchequerlaw12.RaftKeeps", spec := "raftKeeps", unfollowed := true, recurses := true, apart := false }
def RaftKeepsSaid : Prop := raftKeepsRow.holds Try.pinned (OpenSpec.ofChange raftKeepsSpec)

/-- ITS FALSE NEIGHBOUR: 'it returns false'. Refute it at one input. -/
def raftKeepsWrong : ChangeSpec := { name := "raftKeeps", fn := fun _ => fun
  | [d1, d2] => { results := [.lit (.bool false)], args := [d1, d2] }
  | _ => none }
def RaftKeepsWrongFalsely : Prop := raftKeepsRow.holds Try.pinned (OpenSpec.ofChange raftKeepsWrong)

/-- 'exchequerlaw12.RaftReads': WHATEVER THE INPUT: true; the input reads as it did. -/
def raftReadsSpec : ChangeSpec := { name := "raftReads", fn := fun _ => fun
  | [d1, d2] => { results := [.lit (.bool true)], args := [d1, d2] }
  | _ => none }
def raftReadsRow : OpenClaim := { program := "ytmfdopkcaeokeaa", sum := "bdc237ec215042461b0f272a2e6d539079224889b0f5fc42adb128268ac1c38d", func := "exchequer/exchequerlaw12.RaftReads", spec := "raftReads", unfollowed := true, recurses := true, apart := false }
def RaftReadsSaid : Prop := raftReadsRow.holds Try.pinned (OpenSpec.ofChange raftReadsSpec)

/-- ITS FALSE NEIGHBOUR: 'it returns false'. Refute it at one input. -/
def raftReadsWrong : ChangeSpec := { name := "raftReads", fn := fun _ => fun
  | [d1, d2] => { results := [.lit (.bool false)], args := [d1, d2] }
  | _ => none }
def RaftReadsWrongFalsely : Prop := raftReadsRow.holds Try.pinned (OpenSpec.ofChange raftReadsWrong)

/-- 'exchequerlaw12.RaftCalm': WHATEVER THE INPUT: true; the input reads as it did. -/
def raftCalmSpec : ChangeSpec := { name := "raftCalm", fn := fun _ => fun
  | [d1, d2, d3] => { results := [.lit (.bool true)], args := [d1, d2, d3] }
  | _ => none }
def raftCalmRow : OpenClaim := { program := "ytmfdopkcaeokeaa", sum := "bdc237ec215042461b0f272a2e6d539079224889b0f5fc42adb128268ac1c38d", func := "exchequer/exchequerlaw12.RaftCalm", spec := "raftCalm", unfollowed := true, recurses := true, apart := false }
def RaftCalmSaid : Prop := raftCalmRow.holds Try.pinned (OpenSpec.ofChange raftCalmSpec)

/-- ITS FALSE NEIGHBOUR: 'it returns false'. Refute it at one input. -/
def raftCalmWrong : ChangeSpec := { name := "raftCalm", fn := fun _ => fun
  | [d1, d2, d3] => { results := [.lit (.bool false)], args := [d1, d2, d3] }
  | _ => none }
def RaftCalmWrongFalsely : Prop := raftCalmRow.holds Try.pinned (OpenSpec.ofChange raftCalmWrong)

/-- 'exchequerlaw12.RaftStays': WHATEVER THE INPUT: true; the input reads as it did. -/
def raftStaysSpec : ChangeSpec := { name := "raftStays", fn := fun _ => fun
  | [d1, d2, d3] => { results := [.lit (.bool true)], args := [d1, d2, d3] }
  | _ => none }
def raftStaysRow : OpenClaim := { program := "ytmfdopkcaeokeaa", sum := "bdc237ec215042461b0f272a2e6d539079224889b0f5fc42adb128268ac1c38d", func := "exchequer/exchequerlaw12.RaftStays", spec := "raftStays", unfollowed := true, recurses := true, apart := false }
def RaftStaysSaid : Prop := raftStaysRow.holds Try.pinned (OpenSpec.ofChange raftStaysSpec)

/-- ITS FALSE NEIGHBOUR: 'it returns false'. Refute it at one input. -/
def raftStaysWrong : ChangeSpec := { name := "raftStays", fn := fun _ => fun
  | [d1, d2, d3] => { results := [.lit (.bool false)], args := [d1, d2, d3] }
  | _ => none }
def RaftStaysWrongFalsely : Prop := raftStaysRow.holds Try.pinned (OpenSpec.ofChange raftStaysWrong)

/- THE SECOND FORM. 'bulk': how many values and letters a reading holds, each counted each time it is reached (what is shared counts as often as it is met; a slice's spare places count too). A statement '..UptoSaid' is the law's where the arguments, and the package variables that the reading takes, are together of bulk at most 1048576: NARROWER than '..Said'. Prove '..Said' where nothing that the law and all that it calls make is longer than what came in: it says more and counts as full. Else prove '..UptoSaid'. A law counts once. -/
mutual
def uptoBulk {H : Type} : DataW H → Nat
  | .lit (.string bytes) => bytes.length + 1
  | .lit _ => 1
  | .nil => 1
  | .ptr d => uptoBulk d + 1
  | .slice elems spare => uptoBulkAll elems + uptoBulkAll spare + 1
  | .agg parts => uptoBulkAll parts + 1
  | .iface _ d => uptoBulk d + 1
  | .map entries => uptoBulkEntries entries + 1
  | .held _ => 1
def uptoBulkAll {H : Type} : List (DataW H) → Nat
  | [] => 0
  | d :: r => uptoBulk d + uptoBulkAll r
def uptoBulkEntries {H : Type} : List (Lit × DataW H) → Nat
  | [] => 0
  | x :: r => uptoBulkEntry x + uptoBulkEntries r
def uptoBulkEntry {H : Type} : Lit × DataW H → Nat
  | (.string bytes, d) => bytes.length + uptoBulk d + 1
  | (_, d) => uptoBulk d + 1
 end
def uptoSmall : (H : Type) → List (DataW H) → Bool := fun _ ds => decide (uptoBulkAll ds ≤ 1048576)
def OpenSpec.upto (s : _root_.Go.ChangeSpec) : _root_.Go.OpenSpec := { _root_.Go.OpenSpec.ofChange s with cond := some uptoSmall }

/-- 'exchequerlaw12.RaftMakes', WHERE WHAT IT READS IS OF BULK AT MOST 1048576: true; the input reads as it did. -/
def raftMakesUptoRow : OpenClaim := { program := "ytmfdopkcaeokeaa", sum := "bdc237ec215042461b0f272a2e6d539079224889b0f5fc42adb128268ac1c38d", func := "exchequer/exchequerlaw12.RaftMakes", spec := "raftMakes", unfollowed := true, recurses := true, apart := false, narrowed := true }
def RaftMakesUptoSaid : Prop := raftMakesUptoRow.holds Try.pinned (OpenSpec.upto raftMakesSpec)

/-- 'exchequerlaw12.RaftOne', WHERE WHAT IT READS IS OF BULK AT MOST 1048576: true; the input reads as it did. -/
def raftOneUptoRow : OpenClaim := { program := "ytmfdopkcaeokeaa", sum := "bdc237ec215042461b0f272a2e6d539079224889b0f5fc42adb128268ac1c38d", func := "exchequer/exchequerlaw12.RaftOne", spec := "raftOne", unfollowed := true, recurses := true, apart := false, narrowed := true }
def RaftOneUptoSaid : Prop := raftOneUptoRow.holds Try.pinned (OpenSpec.upto raftOneSpec)

/-- 'exchequerlaw12.RaftLogs', WHERE WHAT IT READS IS OF BULK AT MOST 1048576: true; the input reads as it did. -/
def raftLogsUptoRow : OpenClaim := { program := "ytmfdopkcaeokeaa", sum := "bdc237ec215042461b0f272a2e6d539079224889b0f5fc42adb128268ac1c38d", func := "exchequer/exchequerlaw12.RaftLogs", spec := "raftLogs", unfollowed := true, recurses := true, apart := false, narrowed := true }
def RaftLogsUptoSaid : Prop := raftLogsUptoRow.holds Try.pinned (OpenSpec.upto raftLogsSpec)

/-- 'exchequerlaw12.RaftKeeps', WHERE WHAT IT READS IS OF BULK AT MOST 1048576: true; the input reads as it did. -/
def raftKeepsUptoRow : OpenClaim := { program := "ytmfdopkcaeokeaa", sum := "bdc237ec215042461b0f272a2e6d539079224889b0f5fc42adb128268ac1c38d", func := "exchequer/exchequerlaw12.RaftKeeps", spec := "raftKeeps", unfollowed := true, recurses := true, apart := false, narrowed := true }
def RaftKeepsUptoSaid : Prop := raftKeepsUptoRow.holds Try.pinned (OpenSpec.upto raftKeepsSpec)

/-- 'exchequerlaw12.RaftReads', WHERE WHAT IT READS IS OF BULK AT MOST 1048576: true; the input reads as it did. -/
def raftReadsUptoRow : OpenClaim := { program := "ytmfdopkcaeokeaa", sum := "bdc237ec215042461b0f272a2e6d539079224889b0f5fc42adb128268ac1c38d", func := "exchequer/exchequerlaw12.RaftReads", spec := "raftReads", unfollowed := true, recurses := true, apart := false, narrowed := true }
def RaftReadsUptoSaid : Prop := raftReadsUptoRow.holds Try.pinned (OpenSpec.upto raftReadsSpec)

/-- 'exchequerlaw12.RaftCalm', WHERE WHAT IT READS IS OF BULK AT MOST 1048576: true; the input reads as it did. -/
def raftCalmUptoRow : OpenClaim := { program := "ytmfdopkcaeokeaa", sum := "bdc237ec215042461b0f272a2e6d539079224889b0f5fc42adb128268ac1c38d", func := "exchequer/exchequerlaw12.RaftCalm", spec := "raftCalm", unfollowed := true, recurses := true, apart := false, narrowed := true }
def RaftCalmUptoSaid : Prop := raftCalmUptoRow.holds Try.pinned (OpenSpec.upto raftCalmSpec)

/-- 'exchequerlaw12.RaftStays', WHERE WHAT IT READS IS OF BULK AT MOST 1048576: true; the input reads as it did. -/
def raftStaysUptoRow : OpenClaim := { program := "ytmfdopkcaeokeaa", sum := "bdc237ec215042461b0f272a2e6d539079224889b0f5fc42adb128268ac1c38d", func := "exchequer/exchequerlaw12.RaftStays", spec := "raftStays", unfollowed := true, recurses := true, apart := false, narrowed := true }
def RaftStaysUptoSaid : Prop := raftStaysUptoRow.holds Try.pinned (OpenSpec.upto raftStaysSpec)

end Rows
end Go.Proofs.Ytmfdopkcaeokeaa
