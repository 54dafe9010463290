/- The union of any spans is the document's, and its own union: exchequerlaw05.SpanUnions answers true for every input, and changes no argument; no condition. -/
import Derived.Test.YtbpnhefkfamhaaaP15b
import Derived.Test.YtbpnhefkfamhaaaAb24
import Derived.Test.YtbpnhefkfamhaaaRows
import Derived.Test.YtbpnhefkfamhaaaChecked
import Derived.JoinedCond
import Derived.WalkKit
import Derived.ProofKit
import Derived.OpenShut
set_option linter.unusedVariables false
set_option linter.unusedSimpArgs false
namespace Go.Ab
open Go.Proofs Go.Proofs.Ytbpnhefkfamhaaa
open Go.ChangeShapes Go.WideShapes Go.ChangeAt Go.RowKit
set_option maxRecDepth 100000

theorem spanUnions_own : ownKnob Try.prog.godebug = none := by kernel_rfl
theorem spanUnions_contract (H : Type) (enc : TypeId × Value → H) (W : World) (base : Nat) (args : Array Value) (ds gs : List (DataW H)) (before : List MemPlace)
    (hval : ∀ (j : Nat) t v, Try.f3.params[j]? = some t → args[j]? = some v → Value.okWide Try.prog W .any base t v)
    (hW : DataW.Whole enc Try.prog Try.f3.params.toList Rows.spanUnionsSpec.vars false W args.toList ds gs before) :
    Calls Try.prog 3 args W fun e W' => ∃ v, e = .returned v ∧ Rows.spanUnionsSpec.post enc Try.prog Try.f3 false true false false W args v W' := by
  have hW0 := hW
  obtain ⟨p, q, hA, _⟩ := hW
  have ho : oksT Try.prog Try.f3.params.toList [shSps] = true := by kernel_rfl
  obtain ⟨xs, h1, h2, h3⟩ := trodAll_items ho hA fun j t v a b => hval j t v (by simpa using a) (by simpa using b)
  obtain ⟨x, _, rfl, hx, rfl⟩ := h1
  obtain ⟨l, rfl⟩ := fits_sps hx
  refine (law_call h2 h3 (law_sunions l)).mono ?_
  rintro e W' ⟨rfl, hk, hos, hout, _⟩
  refine ⟨_, rfl, law_post (shs := [shSps]) (tb := 4) rfl ?_ rfl Try.underlying4 ho hW0 hk hos hout⟩
  intro ds hds
  match ds, hds with
  | [d0], _ => rfl
theorem spanUnions_lifted (os : Os) (started : os.Started) (H : Type) (enc : TypeId × Value → H) :
    ReturnsInHanded {} Try.checked os 3 .any (Rows.spanUnionsSpec.pre6 enc Try.prog Try.f3 Rows.spanUnionsRow.domain false) (Rows.spanUnionsSpec.post enc Try.prog Try.f3 false true false false) := by
  refine returnsInHanded_of_change (C := Try.checked) spanUnions_own started (by kernel_rfl) Try.func3
    (ChangeSpec.witness6 (enc := enc) (C := Try.checked) false ⟨#[], #[.slice none 0 0], []⟩ 8 (by kernel_rfl) (by kernel_rfl) (by kernel_rfl) (by kernel_rfl)) ?_
  intro W base args ds gs before hval0 hW hcnd _
  exact spanUnions_contract H enc W base args ds gs before hval0 hW
theorem spanUnions_over : Rows.spanUnionsRow.holds Try.pinned (OpenSpec.ofChange Rows.spanUnionsSpec) :=
  OpenClaim.holds_of_wide 3 Try.f3 rfl rfl rfl rfl rfl rfl rfl ⟨rfl, rfl, rfl, rfl, rfl⟩ rfl rfl rfl rfl rfl (by kernel_rfl) Try.func3 (by kernel_rfl)
    (of_decide_eq_true (by kernel_rfl)) (by unfold Func.isWrapper; first | (rw [if_pos (by decide +kernel)]; kernel_rfl) | (rw [if_neg (by decide +kernel)]; exact ⟨rfl, rfl⟩))
    (fun os started H enc _ => spanUnions_lifted os started H enc)
end Go.Ab
namespace Go.Proofs.Ytbpnhefkfamhaaa
theorem spanUnions_holds : Rows.SpanUnionsSaid := Go.Ab.spanUnions_over
end Go.Proofs.Ytbpnhefkfamhaaa
