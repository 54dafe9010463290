/-
  No cell of these rows narrows 'for every input' (looked for: loops, veiled, ifaces, maps, wideKeys, modest, calm, conditions, laid).
  DERIVED. THE GIVEN ROWS OF THIS SEAT. 7 by the template 'for every input the law returns true; each argument reads behind the call as it read before'; 0 by the template 'total and deterministic' (their statements: YtbpnhefkfamhaaaTotals.lean).
  GIVEN WITH THE SEED: the statements are not yours to turn. If you find one false, say at which input.
  Laid BY PROGRAM, IN A SANDBOX (cutbox-rows.mjs): the forced cells as the released guide's own fill.sh prints them over the translation 1be1cb3516a8dc7f… (all of the seat's roots in one cut). By AI agents, Wed Nov 11 2026. No macro, syntax, notation, axiom, sorry.
-/
import Derived.Test.YtbpnhefkfamhaaaChecked
import GoSem.Claim
import GoSem.ClaimJoined
import GoSem.ClaimMapViews
import Derived.JoinedTies
import Derived.KernelRfl
namespace Go.Proofs.Ytbpnhefkfamhaaa
/- THE CELL 'sum', in the pinned program and in every row, IS THE sha256 OF THE DUMP (.gsa) THAT YtbpnhefkfamhaaaProg.lean LOADS. Nothing in Lean hashes anything: it is a label: what it is worth is what the hold of that sum in a sandbox is worth. -/
noncomputable def Try.pinned : Pinned := { name := "ytbpnhefkfamhaaa", sum := "1be1cb3516a8dc7fe719e36877593f0a92c7740980e2ad5b36c8b5c8a2ac9bad", checked := Try.checked }
namespace Rows
def none {H : Type} : Left H := { results := [], args := [] }

/-- 'exchequerlaw05.SpanUnions': WHATEVER THE INPUT: true; the input reads as it did. -/
def spanUnionsSpec : ChangeSpec := { name := "spanUnions", fn := fun _ => fun
  | [d] => { results := [.lit (.bool true)], args := [d] }
  | _ => none }
def spanUnionsRow : OpenClaim := { program := "ytbpnhefkfamhaaa", sum := "1be1cb3516a8dc7fe719e36877593f0a92c7740980e2ad5b36c8b5c8a2ac9bad", func := "exchequer/exchequerlaw05.SpanUnions", spec := "spanUnions", unfollowed := true, recurses := true, apart := false }
def SpanUnionsSaid : Prop := spanUnionsRow.holds Try.pinned (OpenSpec.ofChange spanUnionsSpec)

/-- ITS FALSE NEIGHBOUR: 'it returns false'. Refute it at one input. -/
def spanUnionsWrong : ChangeSpec := { name := "spanUnions", fn := fun _ => fun
  | [d] => { results := [.lit (.bool false)], args := [d] }
  | _ => none }
def SpanUnionsWrongFalsely : Prop := spanUnionsRow.holds Try.pinned (OpenSpec.ofChange spanUnionsWrong)

/-- 'exchequerlaw05.SpanHas': WHATEVER THE INPUT: true; the input reads as it did. -/
def spanHasSpec : ChangeSpec := { name := "spanHas", fn := fun _ => fun
  | [d1, d2] => { results := [.lit (.bool true)], args := [d1, d2] }
  | _ => none }
def spanHasRow : OpenClaim := { program := "ytbpnhefkfamhaaa", sum := "1be1cb3516a8dc7fe719e36877593f0a92c7740980e2ad5b36c8b5c8a2ac9bad", func := "exchequer/exchequerlaw05.SpanHas", spec := "spanHas", unfollowed := true, recurses := true, apart := false }
def SpanHasSaid : Prop := spanHasRow.holds Try.pinned (OpenSpec.ofChange spanHasSpec)

/-- ITS FALSE NEIGHBOUR: 'it returns false'. Refute it at one input. -/
def spanHasWrong : ChangeSpec := { name := "spanHas", fn := fun _ => fun
  | [d1, d2] => { results := [.lit (.bool false)], args := [d1, d2] }
  | _ => none }
def SpanHasWrongFalsely : Prop := spanHasRow.holds Try.pinned (OpenSpec.ofChange spanHasWrong)

/-- 'exchequerlaw05.SpanKeys': WHATEVER THE INPUT: true; the input reads as it did. -/
def spanKeysSpec : ChangeSpec := { name := "spanKeys", fn := fun _ => fun
  | [d1, d2] => { results := [.lit (.bool true)], args := [d1, d2] }
  | _ => none }
def spanKeysRow : OpenClaim := { program := "ytbpnhefkfamhaaa", sum := "1be1cb3516a8dc7fe719e36877593f0a92c7740980e2ad5b36c8b5c8a2ac9bad", func := "exchequer/exchequerlaw05.SpanKeys", spec := "spanKeys", unfollowed := true, recurses := true, apart := false }
def SpanKeysSaid : Prop := spanKeysRow.holds Try.pinned (OpenSpec.ofChange spanKeysSpec)

/-- ITS FALSE NEIGHBOUR: 'it returns false'. Refute it at one input. -/
def spanKeysWrong : ChangeSpec := { name := "spanKeys", fn := fun _ => fun
  | [d1, d2] => { results := [.lit (.bool false)], args := [d1, d2] }
  | _ => none }
def SpanKeysWrongFalsely : Prop := spanKeysRow.holds Try.pinned (OpenSpec.ofChange spanKeysWrong)

/-- 'exchequerlaw05.SpanInside': WHATEVER THE INPUT: true; the input reads as it did. -/
def spanInsideSpec : ChangeSpec := { name := "spanInside", fn := fun _ => fun
  | [d1, d2] => { results := [.lit (.bool true)], args := [d1, d2] }
  | _ => none }
def spanInsideRow : OpenClaim := { program := "ytbpnhefkfamhaaa", sum := "1be1cb3516a8dc7fe719e36877593f0a92c7740980e2ad5b36c8b5c8a2ac9bad", func := "exchequer/exchequerlaw05.SpanInside", spec := "spanInside", unfollowed := true, recurses := true, apart := false }
def SpanInsideSaid : Prop := spanInsideRow.holds Try.pinned (OpenSpec.ofChange spanInsideSpec)

/-- ITS FALSE NEIGHBOUR: 'it returns false'. Refute it at one input. -/
def spanInsideWrong : ChangeSpec := { name := "spanInside", fn := fun _ => fun
  | [d1, d2] => { results := [.lit (.bool false)], args := [d1, d2] }
  | _ => none }
def SpanInsideWrongFalsely : Prop := spanInsideRow.holds Try.pinned (OpenSpec.ofChange spanInsideWrong)

/-- 'exchequerlaw05.SpanCovers': WHATEVER THE INPUT: true; the input reads as it did. -/
def spanCoversSpec : ChangeSpec := { name := "spanCovers", fn := fun _ => fun
  | [d1, d2] => { results := [.lit (.bool true)], args := [d1, d2] }
  | _ => none }
def spanCoversRow : OpenClaim := { program := "ytbpnhefkfamhaaa", sum := "1be1cb3516a8dc7fe719e36877593f0a92c7740980e2ad5b36c8b5c8a2ac9bad", func := "exchequer/exchequerlaw05.SpanCovers", spec := "spanCovers", unfollowed := true, recurses := true, apart := false }
def SpanCoversSaid : Prop := spanCoversRow.holds Try.pinned (OpenSpec.ofChange spanCoversSpec)

/-- ITS FALSE NEIGHBOUR: 'it returns false'. Refute it at one input. -/
def spanCoversWrong : ChangeSpec := { name := "spanCovers", fn := fun _ => fun
  | [d1, d2] => { results := [.lit (.bool false)], args := [d1, d2] }
  | _ => none }
def SpanCoversWrongFalsely : Prop := spanCoversRow.holds Try.pinned (OpenSpec.ofChange spanCoversWrong)

/-- 'exchequerlaw05.SpanPoints': WHATEVER THE INPUT: true; the input reads as it did. -/
def spanPointsSpec : ChangeSpec := { name := "spanPoints", fn := fun _ => fun
  | [d1, d2, d3] => { results := [.lit (.bool true)], args := [d1, d2, d3] }
  | _ => none }
def spanPointsRow : OpenClaim := { program := "ytbpnhefkfamhaaa", sum := "1be1cb3516a8dc7fe719e36877593f0a92c7740980e2ad5b36c8b5c8a2ac9bad", func := "exchequer/exchequerlaw05.SpanPoints", spec := "spanPoints", unfollowed := true, recurses := true, apart := false }
def SpanPointsSaid : Prop := spanPointsRow.holds Try.pinned (OpenSpec.ofChange spanPointsSpec)

/-- ITS FALSE NEIGHBOUR: 'it returns false'. Refute it at one input. -/
def spanPointsWrong : ChangeSpec := { name := "spanPoints", fn := fun _ => fun
  | [d1, d2, d3] => { results := [.lit (.bool false)], args := [d1, d2, d3] }
  | _ => none }
def SpanPointsWrongFalsely : Prop := spanPointsRow.holds Try.pinned (OpenSpec.ofChange spanPointsWrong)

/-- 'exchequerlaw05.SpanMinus': WHATEVER THE INPUT: true; the input reads as it did. -/
def spanMinusSpec : ChangeSpec := { name := "spanMinus", fn := fun _ => fun
  | [d1, d2] => { results := [.lit (.bool true)], args := [d1, d2] }
  | _ => none }
def spanMinusRow : OpenClaim := { program := "ytbpnhefkfamhaaa", sum := "1be1cb3516a8dc7fe719e36877593f0a92c7740980e2ad5b36c8b5c8a2ac9bad", func := "exchequer/exchequerlaw05.SpanMinus", spec := "spanMinus", unfollowed := true, recurses := true, apart := false }
def SpanMinusSaid : Prop := spanMinusRow.holds Try.pinned (OpenSpec.ofChange spanMinusSpec)

/-- ITS FALSE NEIGHBOUR: 'it returns false'. Refute it at one input. -/
def spanMinusWrong : ChangeSpec := { name := "spanMinus", fn := fun _ => fun
  | [d1, d2] => { results := [.lit (.bool false)], args := [d1, d2] }
  | _ => none }
def SpanMinusWrongFalsely : Prop := spanMinusRow.holds Try.pinned (OpenSpec.ofChange spanMinusWrong)

/- THE SECOND FORM. 'bulk': how many values and letters a reading holds, each counted each time it is reached (what is shared counts as often as it is met; a slice's spare places count too). A statement '..UptoSaid' is the law's where the arguments, and the package variables that the reading takes, are together of bulk at most 1048576: NARROWER than '..Said'. Prove '..Said' where nothing that the law and all that it calls make is longer than what came in: it says more and counts as full. Else prove '..UptoSaid'. A law counts once. -/
mutual
def uptoBulk {H : Type} : DataW H → Nat
  | .lit (.string bytes) => bytes.length + 1
  | .lit _ => 1
  | .nil => 1
  | .ptr d => uptoBulk d + 1
  | .slice elems spare => uptoBulkAll elems + uptoBulkAll spare + 1
  | .agg parts => uptoBulkAll parts + 1
  | .iface _ d => uptoBulk d + 1
  | .map entries => uptoBulkEntries entries + 1
  | .held _ => 1
def uptoBulkAll {H : Type} : List (DataW H) → Nat
  | [] => 0
  | d :: r => uptoBulk d + uptoBulkAll r
def uptoBulkEntries {H : Type} : List (Lit × DataW H) → Nat
  | [] => 0
  | x :: r => uptoBulkEntry x + uptoBulkEntries r
def uptoBulkEntry {H : Type} : Lit × DataW H → Nat
  | (.string bytes, d) => bytes.length + uptoBulk d + 1
  | (_, d) => uptoBulk d + 1
 end
def uptoSmall : (H : Type) → List (DataW H) → Bool := fun _ ds => decide (uptoBulkAll ds ≤ 1048576)
def OpenSpec.upto (s : _root_.Go.ChangeSpec) : _root_.Go.OpenSpec := { _root_.Go.OpenSpec.ofChange s with cond := some uptoSmall }

/-- 'exchequerlaw05.SpanUnions', WHERE WHAT IT READS IS OF BULK AT MOST 1048576: true; the input reads as it did. -/
def spanUnionsUptoRow : OpenClaim := { program := "ytbpnhefkfamhaaa", sum := "1be1cb3516a8dc7fe719e36877593f0a92c7740980e2ad5b36c8b5c8a2ac9bad", func := "exchequer/exchequerlaw05.SpanUnions", spec := "spanUnions", unfollowed := true, recurses := true, apart := false, narrowed := true }
def SpanUnionsUptoSaid : Prop := spanUnionsUptoRow.holds Try.pinned (OpenSpec.upto spanUnionsSpec)

/-- 'exchequerlaw05.SpanHas', WHERE WHAT IT READS IS OF BULK AT MOST 1048576: true; the input reads as it did. -/
def spanHasUptoRow : OpenClaim := { program := "ytbpnhefkfamhaaa", sum := "1be1cb3516a8dc7fe719e36877593f0a92c7740980e2ad5b36c8b5c8a2ac9bad", func := "exchequer/exchequerlaw05.SpanHas", spec := "spanHas", unfollowed := true, recurses := true, apart := false, narrowed := true }
def SpanHasUptoSaid : Prop := spanHasUptoRow.holds Try.pinned (OpenSpec.upto spanHasSpec)

/-- 'exchequerlaw05.SpanKeys', WHERE WHAT IT READS IS OF BULK AT MOST 1048576: true; the input reads as it did. -/
def spanKeysUptoRow : OpenClaim := { program := "ytbpnhefkfamhaaa", sum := "1be1cb3516a8dc7fe719e36877593f0a92c7740980e2ad5b36c8b5c8a2ac9bad", func := "exchequer/exchequerlaw05.SpanKeys", spec := "spanKeys", unfollowed := true, recurses := true, apart := false, narrowed := true }
def SpanKeysUptoSaid : Prop := spanKeysUptoRow.holds Try.pinned (OpenSpec.upto spanKeysSpec)

/-- 'exchequerlaw05.SpanInside', WHERE WHAT IT READS IS OF BULK AT MOST 1048576: true; the input reads as it did. -/
def spanInsideUptoRow : OpenClaim := { program := "ytbpnhefkfamhaaa", sum := "1be1cb3516a8dc7fe719e36877593f0a92c7740980e2ad5b36c8b5c8a2ac9bad", func := "exchequer/exchequerlaw05.SpanInside", spec := "spanInside", unfollowed := true, recurses := true, apart := false, narrowed := true }
def SpanInsideUptoSaid : Prop := spanInsideUptoRow.holds Try.pinned (OpenSpec.upto spanInsideSpec)

/-- 'exchequerlaw05.SpanCovers', WHERE WHAT IT READS IS OF BULK AT MOST 1048576: true; the input reads as it did. -/
def spanCoversUptoRow : OpenClaim := { program := "ytbpnhefkfamhaaa", sum := "1be1cb3516a8dc7fe719e36877593f0a92c7740980e2ad5b36c8b5c8a2ac9bad", func := "exchequer/exchequerlaw05.SpanCovers", spec := "spanCovers", unfollowed := true, recurses := true, apart := false, narrowed := true }
def SpanCoversUptoSaid : Prop := spanCoversUptoRow.holds Try.pinned (OpenSpec.upto spanCoversSpec)

/-- 'exchequerlaw05.SpanPoints', WHERE WHAT IT READS IS OF BULK AT MOST 1048576: true; the input reads as it did. -/
def spanPointsUptoRow : OpenClaim := { program := "ytbpnhefkfamhaaa", sum := "1be1cb3516a8dc7fe719e36877593f0a92c7740980e2ad5b36c8b5c8a2ac9bad", func := "exchequer/exchequerlaw05.SpanPoints", spec := "spanPoints", unfollowed := true, recurses := true, apart := false, narrowed := true }
def SpanPointsUptoSaid : Prop := spanPointsUptoRow.holds Try.pinned (OpenSpec.upto spanPointsSpec)

/-- 'exchequerlaw05.SpanMinus', WHERE WHAT IT READS IS OF BULK AT MOST 1048576: true; the input reads as it did. -/
def spanMinusUptoRow : OpenClaim := { program := "ytbpnhefkfamhaaa", sum := "1be1cb3516a8dc7fe719e36877593f0a92c7740980e2ad5b36c8b5c8a2ac9bad", func := "exchequer/exchequerlaw05.SpanMinus", spec := "spanMinus", unfollowed := true, recurses := true, apart := false, narrowed := true }
def SpanMinusUptoSaid : Prop := spanMinusUptoRow.holds Try.pinned (OpenSpec.upto spanMinusSpec)

end Rows
end Go.Proofs.Ytbpnhefkfamhaaa
