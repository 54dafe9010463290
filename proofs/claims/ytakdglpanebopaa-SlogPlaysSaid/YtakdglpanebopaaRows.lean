/-
  No cell of these rows narrows 'for every input' (looked for: loops, veiled, ifaces, maps, wideKeys, modest, calm, conditions, laid).
  DERIVED. THE GIVEN ROWS OF THIS SEAT. 4 by the template 'for every input the law returns true; each argument reads behind the call as it read before'; 0 by the template 'total and deterministic' (their statements: YtakdglpanebopaaTotals.lean).
  GIVEN WITH THE SEED: the statements are not yours to turn. If you find one false, say at which input.
  Laid BY PROGRAM, IN A SANDBOX (cutbox-rows.mjs): the forced cells as the released guide's own fill.sh prints them over the translation 422a2f666784c3fb… (all of the seat's roots in one cut). By AI agents, Wed Nov 11 2026. No macro, syntax, notation, axiom, sorry.
-/
import Derived.Test.YtakdglpanebopaaChecked
import GoSem.Claim
import GoSem.ClaimJoined
import GoSem.ClaimMapViews
import Derived.JoinedTies
import Derived.KernelRfl
namespace Go.Proofs.Ytakdglpanebopaa
/- THE CELL 'sum', in the pinned program and in every row, IS THE sha256 OF THE DUMP (.gsa) THAT YtakdglpanebopaaProg.lean LOADS. Nothing in Lean hashes anything: it is a label: what it is worth is what the hold of that sum in a sandbox is worth. -/
noncomputable def Try.pinned : Pinned := { name := "ytakdglpanebopaa", sum := "422a2f666784c3fbcc09b684a6043b2768024b2da09739a5d3ed34382c4d8265", checked := Try.checked }
namespace Rows
def none {H : Type} : Left H := { results := [], args := [] }

/-- 'exchequerlaw11.SlogAgrees': WHATEVER THE INPUT: true; the input reads as it did. -/
def slogAgreesSpec : ChangeSpec := { name := "slogAgrees", fn := fun _ => fun
  | [d1, d2, d3] => { results := [.lit (.bool true)], args := [d1, d2, d3] }
  | _ => none }
def slogAgreesRow : OpenClaim := { program := "ytakdglpanebopaa", sum := "422a2f666784c3fbcc09b684a6043b2768024b2da09739a5d3ed34382c4d8265", func := "exchequer/exchequerlaw11.SlogAgrees", spec := "slogAgrees", apart := false }
def SlogAgreesSaid : Prop := slogAgreesRow.holds Try.pinned (OpenSpec.ofChange slogAgreesSpec)

/-- ITS FALSE NEIGHBOUR: 'it returns false'. Refute it at one input. -/
def slogAgreesWrong : ChangeSpec := { name := "slogAgrees", fn := fun _ => fun
  | [d1, d2, d3] => { results := [.lit (.bool false)], args := [d1, d2, d3] }
  | _ => none }
def SlogAgreesWrongFalsely : Prop := slogAgreesRow.holds Try.pinned (OpenSpec.ofChange slogAgreesWrong)

/-- 'exchequerlaw11.SlogNewer': WHATEVER THE INPUT: true; the input reads as it did. -/
def slogNewerSpec : ChangeSpec := { name := "slogNewer", fn := fun _ => fun
  | [d1, d2, d3] => { results := [.lit (.bool true)], args := [d1, d2, d3] }
  | _ => none }
def slogNewerRow : OpenClaim := { program := "ytakdglpanebopaa", sum := "422a2f666784c3fbcc09b684a6043b2768024b2da09739a5d3ed34382c4d8265", func := "exchequer/exchequerlaw11.SlogNewer", spec := "slogNewer", apart := false }
def SlogNewerSaid : Prop := slogNewerRow.holds Try.pinned (OpenSpec.ofChange slogNewerSpec)

/-- ITS FALSE NEIGHBOUR: 'it returns false'. Refute it at one input. -/
def slogNewerWrong : ChangeSpec := { name := "slogNewer", fn := fun _ => fun
  | [d1, d2, d3] => { results := [.lit (.bool false)], args := [d1, d2, d3] }
  | _ => none }
def SlogNewerWrongFalsely : Prop := slogNewerRow.holds Try.pinned (OpenSpec.ofChange slogNewerWrong)

/-- 'exchequerlaw11.SlogCuts': WHATEVER THE INPUT: true; the input reads as it did. -/
def slogCutsSpec : ChangeSpec := { name := "slogCuts", fn := fun _ => fun
  | [d1, d2, d3] => { results := [.lit (.bool true)], args := [d1, d2, d3] }
  | _ => none }
def slogCutsRow : OpenClaim := { program := "ytakdglpanebopaa", sum := "422a2f666784c3fbcc09b684a6043b2768024b2da09739a5d3ed34382c4d8265", func := "exchequer/exchequerlaw11.SlogCuts", spec := "slogCuts", apart := false }
def SlogCutsSaid : Prop := slogCutsRow.holds Try.pinned (OpenSpec.ofChange slogCutsSpec)

/-- ITS FALSE NEIGHBOUR: 'it returns false'. Refute it at one input. -/
def slogCutsWrong : ChangeSpec := { name := "slogCuts", fn := fun _ => fun
  | [d1, d2, d3] => { results := [.lit (.bool false)], args := [d1, d2, d3] }
  | _ => none }
def SlogCutsWrongFalsely : Prop := slogCutsRow.holds Try.pinned (OpenSpec.ofChange slogCutsWrong)

/-- 'exchequerlaw11.SlogPlays': WHATEVER THE INPUT: true; the input reads as it did. -/
def slogPlaysSpec : ChangeSpec := { name := "slogPlays", fn := fun _ => fun
  | [d1, d2, d3] => { results := [.lit (.bool true)], args := [d1, d2, d3] }
  | _ => none }
def slogPlaysRow : OpenClaim := { program := "ytakdglpanebopaa", sum := "422a2f666784c3fbcc09b684a6043b2768024b2da09739a5d3ed34382c4d8265", func := "exchequer/exchequerlaw11.SlogPlays", spec := "slogPlays", apart := false }
def SlogPlaysSaid : Prop := slogPlaysRow.holds Try.pinned (OpenSpec.ofChange slogPlaysSpec)

/-- ITS FALSE NEIGHBOUR: 'it returns false'. Refute it at one input. -/
def slogPlaysWrong : ChangeSpec := { name := "slogPlays", fn := fun _ => fun
  | [d1, d2, d3] => { results := [.lit (.bool false)], args := [d1, d2, d3] }
  | _ => none }
def SlogPlaysWrongFalsely : Prop := slogPlaysRow.holds Try.pinned (OpenSpec.ofChange slogPlaysWrong)

/- THE SECOND FORM. 'bulk': how many values and letters a reading holds, each counted each time it is reached (what is shared counts as often as it is met; a slice's spare places count too). A statement '..UptoSaid' is the law's where the arguments, and the package variables that the reading takes, are together of bulk at most 1048576: NARROWER than '..Said'. Prove '..Said' where nothing that the law and all that it calls make is longer than what came in: it says more and counts as full. Else prove '..UptoSaid'. A law counts once. -/
mutual
def uptoBulk {H : Type} : DataW H → Nat
  | .lit (.string bytes) => bytes.length + 1
  | .lit _ => 1
  | .nil => 1
  | .ptr d => uptoBulk d + 1
  | .slice elems spare => uptoBulkAll elems + uptoBulkAll spare + 1
  | .agg parts => uptoBulkAll parts + 1
  | .iface _ d => uptoBulk d + 1
  | .map entries => uptoBulkEntries entries + 1
  | .held _ => 1
def uptoBulkAll {H : Type} : List (DataW H) → Nat
  | [] => 0
  | d :: r => uptoBulk d + uptoBulkAll r
def uptoBulkEntries {H : Type} : List (Lit × DataW H) → Nat
  | [] => 0
  | x :: r => uptoBulkEntry x + uptoBulkEntries r
def uptoBulkEntry {H : Type} : Lit × DataW H → Nat
  | (.string bytes, d) => bytes.length + uptoBulk d + 1
  | (_, d) => uptoBulk d + 1
 end
def uptoSmall : (H : Type) → List (DataW H) → Bool := fun _ ds => decide (uptoBulkAll ds ≤ 1048576)
def OpenSpec.upto (s : _root_.Go.ChangeSpec) : _root_.Go.OpenSpec := { _root_.Go.OpenSpec.ofChange s with cond := some uptoSmall }

/-- 'exchequerlaw11.SlogAgrees', WHERE WHAT IT READS IS OF BULK AT MOST 1048576: true; the input reads as it did. -/
def slogAgreesUptoRow : OpenClaim := { program := "ytakdglpanebopaa", sum := "422a2f666784c3fbcc09b684a6043b2768024b2da09739a5d3ed34382c4d8265", func := "exchequer/exchequerlaw11.SlogAgrees", spec := "slogAgrees", apart := false, narrowed := true }
def SlogAgreesUptoSaid : Prop := slogAgreesUptoRow.holds Try.pinned (OpenSpec.upto slogAgreesSpec)

/-- 'exchequerlaw11.SlogNewer', WHERE WHAT IT READS IS OF BULK AT MOST 1048576: true; the input reads as it did. -/
def slogNewerUptoRow : OpenClaim := { program := "ytakdglpanebopaa", sum := "422a2f666784c3fbcc09b684a6043b2768024b2da09739a5d3ed34382c4d8265", func := "exchequer/exchequerlaw11.SlogNewer", spec := "slogNewer", apart := false, narrowed := true }
def SlogNewerUptoSaid : Prop := slogNewerUptoRow.holds Try.pinned (OpenSpec.upto slogNewerSpec)

/-- 'exchequerlaw11.SlogCuts', WHERE WHAT IT READS IS OF BULK AT MOST 1048576: true; the input reads as it did. -/
def slogCutsUptoRow : OpenClaim := { program := "ytakdglpanebopaa", sum := "422a2f666784c3fbcc09b684a6043b2768024b2da09739a5d3ed34382c4d8265", func := "exchequer/exchequerlaw11.SlogCuts", spec := "slogCuts", apart := false, narrowed := true }
def SlogCutsUptoSaid : Prop := slogCutsUptoRow.holds Try.pinned (OpenSpec.upto slogCutsSpec)

/-- 'exchequerlaw11.SlogPlays', WHERE WHAT IT READS IS OF BULK AT MOST 1048576: true; the input reads as it did. -/
def slogPlaysUptoRow : OpenClaim := { program := "ytakdglpanebopaa", sum := "422a2f666784c3fbcc09b684a6043b2768024b2da09739a5d3ed34382c4d8265", func := "exchequer/exchequerlaw11.SlogPlays", spec := "slogPlays", apart := false, narrowed := true }
def SlogPlaysUptoSaid : Prop := slogPlaysUptoRow.holds Try.pinned (OpenSpec.upto slogPlaysSpec)

end Rows
end Go.Proofs.Ytakdglpanebopaa
