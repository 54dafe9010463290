/- Whether a span is right, and has a key, is what the document says: exchequerlaw05.SpanHas answers true for every input, and changes no argument; no condition. -/
import Derived.Test.YtbpnhefkfamhaaaP9
import Derived.Test.YtbpnhefkfamhaaaAb24
import Derived.Test.YtbpnhefkfamhaaaRows
import Derived.Test.YtbpnhefkfamhaaaChecked
import Derived.JoinedCond
import Derived.WalkKit
import Derived.ProofKit
import Derived.OpenShut
set_option linter.unusedVariables false
set_option linter.unusedSimpArgs false
namespace Go.Ab
open Go.Proofs Go.Proofs.Ytbpnhefkfamhaaa
open Go.ChangeShapes Go.WideShapes Go.ChangeAt Go.RowKit
set_option maxRecDepth 100000

theorem spanHas_own : ownKnob Try.prog.godebug = none := by kernel_rfl
theorem spanHas_contract (H : Type) (enc : TypeId × Value → H) (W : World) (base : Nat) (args : Array Value) (ds gs : List (DataW H)) (before : List MemPlace)
    (hval : ∀ (j : Nat) t v, Try.f4.params[j]? = some t → args[j]? = some v → Value.okWide Try.prog W .any base t v)
    (hW : DataW.Whole enc Try.prog Try.f4.params.toList Rows.spanHasSpec.vars false W args.toList ds gs before) :
    Calls Try.prog 4 args W fun e W' => ∃ v, e = .returned v ∧ Rows.spanHasSpec.post enc Try.prog Try.f4 false true false false W args v W' := by
  have hW0 := hW
  obtain ⟨p, q, hA, _⟩ := hW
  have ho : oksT Try.prog Try.f4.params.toList [.st [.str, .str], .str] = true := by kernel_rfl
  obtain ⟨xs, h1, h2, h3⟩ := trodAll_items ho hA fun j t v a b => hval j t v (by simpa using a) (by simpa using b)
  obtain ⟨x, _, rfl, ⟨_, rfl, a, _, rfl, ⟨f, rfl⟩, b, _, rfl, ⟨t, rfl⟩, rfl⟩, y, _, rfl, ⟨k, rfl⟩, rfl⟩ := h1
  refine (law_call h2 h3 (law_shas sortNil ⟨f, t⟩ k)).mono ?_
  rintro e W' ⟨rfl, hk, hos, hout, _⟩
  refine ⟨_, rfl, law_post (shs := [.st [.str, .str], .str]) (tb := 4) rfl ?_ rfl Try.underlying4 ho hW0 hk hos hout⟩
  intro ds hds
  match ds, hds with
  | [d0, d1], _ => rfl
theorem spanHas_lifted (os : Os) (started : os.Started) (H : Type) (enc : TypeId × Value → H) :
    ReturnsInHanded {} Try.checked os 4 .any (Rows.spanHasSpec.pre6 enc Try.prog Try.f4 Rows.spanHasRow.domain false) (Rows.spanHasSpec.post enc Try.prog Try.f4 false true false false) := by
  refine returnsInHanded_of_change (C := Try.checked) spanHas_own started (by kernel_rfl) Try.func4
    (ChangeSpec.witness6 (enc := enc) (C := Try.checked) false ⟨#[], #[.agg #[.string .empty, .string .empty], .string .empty], []⟩ 8 (by kernel_rfl) (by kernel_rfl) (by kernel_rfl) (by kernel_rfl)) ?_
  intro W base args ds gs before hval0 hW hcnd _
  exact spanHas_contract H enc W base args ds gs before hval0 hW
theorem spanHas_over : Rows.spanHasRow.holds Try.pinned (OpenSpec.ofChange Rows.spanHasSpec) :=
  OpenClaim.holds_of_wide 4 Try.f4 rfl rfl rfl rfl rfl rfl rfl ⟨rfl, rfl, rfl, rfl, rfl⟩ rfl rfl rfl rfl rfl (by kernel_rfl) Try.func4 (by kernel_rfl)
    (of_decide_eq_true (by kernel_rfl)) (by unfold Func.isWrapper; first | (rw [if_pos (by decide +kernel)]; kernel_rfl) | (rw [if_neg (by decide +kernel)]; exact ⟨rfl, rfl⟩))
    (fun os started H enc _ => spanHas_lifted os started H enc)
end Go.Ab
namespace Go.Proofs.Ytbpnhefkfamhaaa
theorem spanHas_holds : Rows.SpanHasSaid := Go.Ab.spanHas_over
end Go.Proofs.Ytbpnhefkfamhaaa
