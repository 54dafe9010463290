/-
  No cell of these rows narrows 'for every input' (looked for: loops, veiled, ifaces, maps, wideKeys, modest, calm, conditions, laid).
  DERIVED. THE GIVEN ROWS OF THIS SEAT. 4 by the template 'for every input the law returns true; each argument reads behind the call as it read before'; 0 by the template 'total and deterministic' (their statements: YtoombangidlpjaaTotals.lean).
  GIVEN WITH THE SEED: the statements are not yours to turn. If you find one false, say at which input.
  Laid BY PROGRAM, IN A SANDBOX (cutbox-rows.mjs): the forced cells as the released guide's own fill.sh prints them over the translation eef30784e85a5744… (all of the seat's roots in one cut). By AI agents, Wed Nov 11 2026. No macro, syntax, notation, axiom, sorry.
-/
import Derived.Test.YtoombangidlpjaaChecked
import GoSem.Claim
import GoSem.ClaimJoined
import GoSem.ClaimMapViews
import Derived.JoinedTies
import Derived.KernelRfl
namespace Go.Proofs.Ytoombangidlpjaa
/- THE CELL 'sum', in the pinned program and in every row, IS THE sha256 OF THE DUMP (.gsa) THAT YtoombangidlpjaaProg.lean LOADS. Nothing in Lean hashes anything: it is a label: what it is worth is what the hold of that sum in a sandbox is worth. -/
noncomputable def Try.pinned : Pinned := { name := "ytoombangidlpjaa", sum := "eef30784e85a5744c9ea3a003eaa4a4756a027a1445275a19f2c4002800e7a59", checked := Try.checked }
namespace Rows
def none {H : Type} : Left H := { results := [], args := [] }

/-- 'exchequerlaw16.AllowMays': WHATEVER THE INPUT: true; the input reads as it did. -/
def allowMaysSpec : ChangeSpec := { name := "allowMays", fn := fun _ => fun
  | [d1, d2] => { results := [.lit (.bool true)], args := [d1, d2] }
  | _ => none }
def allowMaysRow : OpenClaim := { program := "ytoombangidlpjaa", sum := "eef30784e85a5744c9ea3a003eaa4a4756a027a1445275a19f2c4002800e7a59", func := "exchequer/exchequerlaw16.AllowMays", spec := "allowMays", unfollowed := true, recurses := true, apart := false }
def AllowMaysSaid : Prop := allowMaysRow.holds Try.pinned (OpenSpec.ofChange allowMaysSpec)

/-- ITS FALSE NEIGHBOUR: 'it returns false'. Refute it at one input. -/
def allowMaysWrong : ChangeSpec := { name := "allowMays", fn := fun _ => fun
  | [d1, d2] => { results := [.lit (.bool false)], args := [d1, d2] }
  | _ => none }
def AllowMaysWrongFalsely : Prop := allowMaysRow.holds Try.pinned (OpenSpec.ofChange allowMaysWrong)

/-- 'exchequerlaw16.AllowKeys': WHATEVER THE INPUT: true; the input reads as it did. -/
def allowKeysSpec : ChangeSpec := { name := "allowKeys", fn := fun _ => fun
  | [d1, d2, d3] => { results := [.lit (.bool true)], args := [d1, d2, d3] }
  | _ => none }
def allowKeysRow : OpenClaim := { program := "ytoombangidlpjaa", sum := "eef30784e85a5744c9ea3a003eaa4a4756a027a1445275a19f2c4002800e7a59", func := "exchequer/exchequerlaw16.AllowKeys", spec := "allowKeys", unfollowed := true, recurses := true, apart := false }
def AllowKeysSaid : Prop := allowKeysRow.holds Try.pinned (OpenSpec.ofChange allowKeysSpec)

/-- ITS FALSE NEIGHBOUR: 'it returns false'. Refute it at one input. -/
def allowKeysWrong : ChangeSpec := { name := "allowKeys", fn := fun _ => fun
  | [d1, d2, d3] => { results := [.lit (.bool false)], args := [d1, d2, d3] }
  | _ => none }
def AllowKeysWrongFalsely : Prop := allowKeysRow.holds Try.pinned (OpenSpec.ofChange allowKeysWrong)

/-- 'exchequerlaw16.AllowGrows': WHATEVER THE INPUT: true; the input reads as it did. -/
def allowGrowsSpec : ChangeSpec := { name := "allowGrows", fn := fun _ => fun
  | [d1, d2, d3] => { results := [.lit (.bool true)], args := [d1, d2, d3] }
  | _ => none }
def allowGrowsRow : OpenClaim := { program := "ytoombangidlpjaa", sum := "eef30784e85a5744c9ea3a003eaa4a4756a027a1445275a19f2c4002800e7a59", func := "exchequer/exchequerlaw16.AllowGrows", spec := "allowGrows", unfollowed := true, recurses := true, apart := false }
def AllowGrowsSaid : Prop := allowGrowsRow.holds Try.pinned (OpenSpec.ofChange allowGrowsSpec)

/-- ITS FALSE NEIGHBOUR: 'it returns false'. Refute it at one input. -/
def allowGrowsWrong : ChangeSpec := { name := "allowGrows", fn := fun _ => fun
  | [d1, d2, d3] => { results := [.lit (.bool false)], args := [d1, d2, d3] }
  | _ => none }
def AllowGrowsWrongFalsely : Prop := allowGrowsRow.holds Try.pinned (OpenSpec.ofChange allowGrowsWrong)

/-- 'exchequerlaw16.AllowNobody': WHATEVER THE INPUT: true; the input reads as it did. -/
def allowNobodySpec : ChangeSpec := { name := "allowNobody", fn := fun _ => fun
  | [d1, d2, d3] => { results := [.lit (.bool true)], args := [d1, d2, d3] }
  | _ => none }
def allowNobodyRow : OpenClaim := { program := "ytoombangidlpjaa", sum := "eef30784e85a5744c9ea3a003eaa4a4756a027a1445275a19f2c4002800e7a59", func := "exchequer/exchequerlaw16.AllowNobody", spec := "allowNobody", unfollowed := true, recurses := true, apart := false }
def AllowNobodySaid : Prop := allowNobodyRow.holds Try.pinned (OpenSpec.ofChange allowNobodySpec)

/-- ITS FALSE NEIGHBOUR: 'it returns false'. Refute it at one input. -/
def allowNobodyWrong : ChangeSpec := { name := "allowNobody", fn := fun _ => fun
  | [d1, d2, d3] => { results := [.lit (.bool false)], args := [d1, d2, d3] }
  | _ => none }
def AllowNobodyWrongFalsely : Prop := allowNobodyRow.holds Try.pinned (OpenSpec.ofChange allowNobodyWrong)

/- THE SECOND FORM. 'bulk': how many values and letters a reading holds, each counted each time it is reached (what is shared counts as often as it is met; a slice's spare places count too). A statement '..UptoSaid' is the law's where the arguments, and the package variables that the reading takes, are together of bulk at most 1048576: NARROWER than '..Said'. Prove '..Said' where nothing that the law and all that it calls make is longer than what came in: it says more and counts as full. Else prove '..UptoSaid'. A law counts once. -/
mutual
def uptoBulk {H : Type} : DataW H → Nat
  | .lit (.string bytes) => bytes.length + 1
  | .lit _ => 1
  | .nil => 1
  | .ptr d => uptoBulk d + 1
  | .slice elems spare => uptoBulkAll elems + uptoBulkAll spare + 1
  | .agg parts => uptoBulkAll parts + 1
  | .iface _ d => uptoBulk d + 1
  | .map entries => uptoBulkEntries entries + 1
  | .held _ => 1
def uptoBulkAll {H : Type} : List (DataW H) → Nat
  | [] => 0
  | d :: r => uptoBulk d + uptoBulkAll r
def uptoBulkEntries {H : Type} : List (Lit × DataW H) → Nat
  | [] => 0
  | x :: r => uptoBulkEntry x + uptoBulkEntries r
def uptoBulkEntry {H : Type} : Lit × DataW H → Nat
  | (.string bytes, d) => bytes.length + uptoBulk d + 1
  | (_, d) => uptoBulk d + 1
 end
def uptoSmall : (H : Type) → List (DataW H) → Bool := fun _ ds => decide (uptoBulkAll ds ≤ 1048576)
def OpenSpec.upto (s : _root_.Go.ChangeSpec) : _root_.Go.OpenSpec := { _root_.Go.OpenSpec.ofChange s with cond := some uptoSmall }

/-- 'exchequerlaw16.AllowMays', WHERE WHAT IT READS IS OF BULK AT MOST 1048576: true; the input reads as it did. -/
def allowMaysUptoRow : OpenClaim := { program := "ytoombangidlpjaa", sum := "eef30784e85a5744c9ea3a003eaa4a4756a027a1445275a19f2c4002800e7a59", func := "exchequer/exchequerlaw16.AllowMays", spec := "allowMays", unfollowed := true, recurses := true, apart := false, narrowed := true }
def AllowMaysUptoSaid : Prop := allowMaysUptoRow.holds Try.pinned (OpenSpec.upto allowMaysSpec)

/-- 'exchequerlaw16.AllowKeys', WHERE WHAT IT READS IS OF BULK AT MOST 1048576: true; the input reads as it did. -/
def allowKeysUptoRow : OpenClaim := { program := "ytoombangidlpjaa", sum := "eef30784e85a5744c9ea3a003eaa4a4756a027a1445275a19f2c4002800e7a59", func := "exchequer/exchequerlaw16.AllowKeys", spec := "allowKeys", unfollowed := true, recurses := true, apart := false, narrowed := true }
def AllowKeysUptoSaid : Prop := allowKeysUptoRow.holds Try.pinned (OpenSpec.upto allowKeysSpec)

/-- 'exchequerlaw16.AllowGrows', WHERE WHAT IT READS IS OF BULK AT MOST 1048576: true; the input reads as it did. -/
def allowGrowsUptoRow : OpenClaim := { program := "ytoombangidlpjaa", sum := "eef30784e85a5744c9ea3a003eaa4a4756a027a1445275a19f2c4002800e7a59", func := "exchequer/exchequerlaw16.AllowGrows", spec := "allowGrows", unfollowed := true, recurses := true, apart := false, narrowed := true }
def AllowGrowsUptoSaid : Prop := allowGrowsUptoRow.holds Try.pinned (OpenSpec.upto allowGrowsSpec)

/-- 'exchequerlaw16.AllowNobody', WHERE WHAT IT READS IS OF BULK AT MOST 1048576: true; the input reads as it did. -/
def allowNobodyUptoRow : OpenClaim := { program := "ytoombangidlpjaa", sum := "eef30784e85a5744c9ea3a003eaa4a4756a027a1445275a19f2c4002800e7a59", func := "exchequer/exchequerlaw16.AllowNobody", spec := "allowNobody", unfollowed := true, recurses := true, apart := false, narrowed := true }
def AllowNobodyUptoSaid : Prop := allowNobodyUptoRow.holds Try.pinned (OpenSpec.upto allowNobodySpec)

end Rows
end Go.Proofs.Ytoombangidlpjaa
