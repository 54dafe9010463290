/- A key's span has that key alone, and the span under a text just the keys that begin with it: exchequerlaw05.SpanKeys answers true for every input, and changes no argument; no condition. -/
import Derived.Test.YtbpnhefkfamhaaaP9
import Derived.Test.YtbpnhefkfamhaaaAb24
import Derived.Test.YtbpnhefkfamhaaaRows
import Derived.Test.YtbpnhefkfamhaaaChecked
import Derived.JoinedCond
import Derived.WalkKit
import Derived.ProofKit
import Derived.OpenShut
set_option linter.unusedVariables false
set_option linter.unusedSimpArgs false
namespace Go.Ab
open Go.Proofs Go.Proofs.Ytbpnhefkfamhaaa
open Go.ChangeShapes Go.WideShapes Go.ChangeAt Go.RowKit
set_option maxRecDepth 100000

theorem spanKeys_own : ownKnob Try.prog.godebug = none := by kernel_rfl
theorem spanKeys_contract (H : Type) (enc : TypeId × Value → H) (W : World) (base : Nat) (args : Array Value) (ds gs : List (DataW H)) (before : List MemPlace)
    (hval : ∀ (j : Nat) t v, Try.f5.params[j]? = some t → args[j]? = some v → Value.okWide Try.prog W .any base t v)
    (hW : DataW.Whole enc Try.prog Try.f5.params.toList Rows.spanKeysSpec.vars false W args.toList ds gs before) :
    Calls Try.prog 5 args W fun e W' => ∃ v, e = .returned v ∧ Rows.spanKeysSpec.post enc Try.prog Try.f5 false true false false W args v W' := by
  have hW0 := hW
  obtain ⟨p, q, hA, _⟩ := hW
  have ho : oksT Try.prog Try.f5.params.toList [.str, .str] = true := by kernel_rfl
  obtain ⟨xs, h1, h2, h3⟩ := trodAll_items ho hA fun j t v a b => hval j t v (by simpa using a) (by simpa using b)
  obtain ⟨x, _, rfl, ⟨p', rfl⟩, y, _, rfl, ⟨k, rfl⟩, rfl⟩ := h1
  refine (law_call h2 h3 (law_skeys sortNil p' k)).mono ?_
  rintro e W' ⟨rfl, hk, hos, hout, _⟩
  refine ⟨_, rfl, law_post (shs := [.str, .str]) (tb := 4) rfl ?_ rfl Try.underlying4 ho hW0 hk hos hout⟩
  intro ds hds
  match ds, hds with
  | [d0, d1], _ => rfl
theorem spanKeys_lifted (os : Os) (started : os.Started) (H : Type) (enc : TypeId × Value → H) :
    ReturnsInHanded {} Try.checked os 5 .any (Rows.spanKeysSpec.pre6 enc Try.prog Try.f5 Rows.spanKeysRow.domain false) (Rows.spanKeysSpec.post enc Try.prog Try.f5 false true false false) := by
  refine returnsInHanded_of_change (C := Try.checked) spanKeys_own started (by kernel_rfl) Try.func5
    (ChangeSpec.witness6 (enc := enc) (C := Try.checked) false ⟨#[], #[.string .empty, .string .empty], []⟩ 8 (by kernel_rfl) (by kernel_rfl) (by kernel_rfl) (by kernel_rfl)) ?_
  intro W base args ds gs before hval0 hW hcnd _
  exact spanKeys_contract H enc W base args ds gs before hval0 hW
theorem spanKeys_over : Rows.spanKeysRow.holds Try.pinned (OpenSpec.ofChange Rows.spanKeysSpec) :=
  OpenClaim.holds_of_wide 5 Try.f5 rfl rfl rfl rfl rfl rfl rfl ⟨rfl, rfl, rfl, rfl, rfl⟩ rfl rfl rfl rfl rfl (by kernel_rfl) Try.func5 (by kernel_rfl)
    (of_decide_eq_true (by kernel_rfl)) (by unfold Func.isWrapper; first | (rw [if_pos (by decide +kernel)]; kernel_rfl) | (rw [if_neg (by decide +kernel)]; exact ⟨rfl, rfl⟩))
    (fun os started H enc _ => spanKeys_lifted os started H enc)
end Go.Ab
namespace Go.Proofs.Ytbpnhefkfamhaaa
theorem spanKeys_holds : Rows.SpanKeysSaid := Go.Ab.spanKeys_over
end Go.Proofs.Ytbpnhefkfamhaaa
