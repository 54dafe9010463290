/- A span is inside another one just if that one alone covers it, as the document says: exchequerlaw05.SpanInside answers true for every input, and changes no argument; no condition. -/
import Derived.Test.YtbpnhefkfamhaaaP15b
import Derived.Test.YtbpnhefkfamhaaaAb24
import Derived.Test.YtbpnhefkfamhaaaRows
import Derived.Test.YtbpnhefkfamhaaaChecked
import Derived.JoinedCond
import Derived.WalkKit
import Derived.ProofKit
import Derived.OpenShut
set_option linter.unusedVariables false
set_option linter.unusedSimpArgs false
namespace Go.Ab
open Go.Proofs Go.Proofs.Ytbpnhefkfamhaaa
open Go.ChangeShapes Go.WideShapes Go.ChangeAt Go.RowKit
set_option maxRecDepth 100000

theorem spanInside_own : ownKnob Try.prog.godebug = none := by kernel_rfl
theorem spanInside_contract (H : Type) (enc : TypeId × Value → H) (W : World) (base : Nat) (args : Array Value) (ds gs : List (DataW H)) (before : List MemPlace)
    (hval : ∀ (j : Nat) t v, Try.f6.params[j]? = some t → args[j]? = some v → Value.okWide Try.prog W .any base t v)
    (hW : DataW.Whole enc Try.prog Try.f6.params.toList Rows.spanInsideSpec.vars false W args.toList ds gs before) :
    Calls Try.prog 6 args W fun e W' => ∃ v, e = .returned v ∧ Rows.spanInsideSpec.post enc Try.prog Try.f6 false true false false W args v W' := by
  have hW0 := hW
  obtain ⟨p, q, hA, _⟩ := hW
  have ho : oksT Try.prog Try.f6.params.toList [shSp, shSp] = true := by kernel_rfl
  obtain ⟨xs, h1, h2, h3⟩ := trodAll_items ho hA fun j t v a b => hval j t v (by simpa using a) (by simpa using b)
  obtain ⟨x, _, rfl, hx, y, _, rfl, hy, rfl⟩ := h1
  obtain ⟨s, rfl⟩ := fits_sp hx
  obtain ⟨s', rfl⟩ := fits_sp hy
  refine (law_call h2 h3 (law_sinside s s')).mono ?_
  rintro e W' ⟨rfl, hk, hos, hout, _⟩
  refine ⟨_, rfl, law_post (shs := [shSp, shSp]) (tb := 4) rfl ?_ rfl Try.underlying4 ho hW0 hk hos hout⟩
  intro ds hds
  match ds, hds with
  | [d0, d1], _ => rfl
theorem spanInside_lifted (os : Os) (started : os.Started) (H : Type) (enc : TypeId × Value → H) :
    ReturnsInHanded {} Try.checked os 6 .any (Rows.spanInsideSpec.pre6 enc Try.prog Try.f6 Rows.spanInsideRow.domain false) (Rows.spanInsideSpec.post enc Try.prog Try.f6 false true false false) := by
  refine returnsInHanded_of_change (C := Try.checked) spanInside_own started (by kernel_rfl) Try.func6
    (ChangeSpec.witness6 (enc := enc) (C := Try.checked) false ⟨#[], #[.agg #[.string .empty, .string .empty], .agg #[.string .empty, .string .empty]], []⟩ 8 (by kernel_rfl) (by kernel_rfl) (by kernel_rfl) (by kernel_rfl)) ?_
  intro W base args ds gs before hval0 hW hcnd _
  exact spanInside_contract H enc W base args ds gs before hval0 hW
theorem spanInside_over : Rows.spanInsideRow.holds Try.pinned (OpenSpec.ofChange Rows.spanInsideSpec) :=
  OpenClaim.holds_of_wide 6 Try.f6 rfl rfl rfl rfl rfl rfl rfl ⟨rfl, rfl, rfl, rfl, rfl⟩ rfl rfl rfl rfl rfl (by kernel_rfl) Try.func6 (by kernel_rfl)
    (of_decide_eq_true (by kernel_rfl)) (by unfold Func.isWrapper; first | (rw [if_pos (by decide +kernel)]; kernel_rfl) | (rw [if_neg (by decide +kernel)]; exact ⟨rfl, rfl⟩))
    (fun os started H enc _ => spanInside_lifted os started H enc)
end Go.Ab
namespace Go.Proofs.Ytbpnhefkfamhaaa
theorem spanInside_holds : Rows.SpanInsideSaid := Go.Ab.spanInside_over
end Go.Proofs.Ytbpnhefkfamhaaa
