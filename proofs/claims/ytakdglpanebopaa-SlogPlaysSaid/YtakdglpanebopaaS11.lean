/- One text of the proof whose last text says what is proved. -/
import Derived.Test.YtakdglpanebopaaS10
import Derived.WalkKit
import Derived.ProofKit
import Derived.OpenShut
set_option linter.unusedVariables false
set_option linter.unusedSimpArgs false
namespace Go.Ab
open Go.Proofs Go.Proofs.Ytakdglpanebopaa
open Go.ChangeShapes Go.WideShapes Go.ChangeAt Go.RowKit
set_option maxRecDepth 100000 in
theorem newer_lifted (hgrow : GrowOk) (os : Os) (started : os.Started) (H : Type) (enc : TypeId × Value → H) :
    ReturnsInHanded {} Try.checked os 4 .any (Rows.slogNewerSpec.pre6 enc Try.prog Try.f4 Rows.slogNewerRow.domain false) (Rows.slogNewerSpec.post enc Try.prog Try.f4 false true false false) := by
  refine returnsInHanded_of_change (C := Try.checked) own started (by kernel_rfl) Try.func4
    (ChangeSpec.witness6 (enc := enc) (C := Try.checked) false ⟨#[], #[.slice none 0 0, .slice none 0 0, .int .i64 0], []⟩ 8 (by kernel_rfl) (by kernel_rfl) (by kernel_rfl) (by kernel_rfl)) ?_
  intro W base args ds gs before hval0 hW hcnd _
  exact newer_contract hgrow H enc W base args ds gs before hval0 hW

theorem newer_over (hgrow : GrowOk) : Rows.slogNewerRow.holds Try.pinned (OpenSpec.ofChange Rows.slogNewerSpec) :=
  OpenClaim.holds_of_wide 4 Try.f4 rfl rfl rfl rfl rfl rfl rfl ⟨rfl, rfl, rfl, rfl, rfl⟩ rfl rfl rfl rfl rfl (by kernel_rfl) Try.func4 (by kernel_rfl)
    (of_decide_eq_true (by kernel_rfl)) (by unfold Func.isWrapper; first | (rw [if_pos (by decide +kernel)]; kernel_rfl) | (rw [if_neg (by decide +kernel)]; exact ⟨rfl, rfl⟩))
    (fun os started H enc _ => newer_lifted hgrow os started H enc)
theorem newer_proved (hgrow : GrowOk) : Rows.SlogNewerSaid := newer_over hgrow
end Go.Ab
