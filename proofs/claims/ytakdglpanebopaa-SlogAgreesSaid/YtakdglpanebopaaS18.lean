/- What Put takes is there as it was handed in, up to the index that is told, and what agreed with it stays: exchequerlaw11.SlogAgrees answers true for every input, and changes no argument; no condition. -/
import Derived.Test.YtakdglpanebopaaS17
import Derived.Test.YtakdglpanebopaaS12
set_option linter.unusedVariables false
set_option linter.unusedSimpArgs false
namespace Go.Ab
open Go.Proofs Go.Proofs.Ytakdglpanebopaa
open Go.ChangeShapes Go.WideShapes Go.ChangeAt Go.RowKit
set_option maxRecDepth 100000

theorem agrees_contract (hgrow : GrowOk) (H : Type) (enc : TypeId × Value → H) (W : World) (base : Nat) (args : Array Value) (ds gs : List (DataW H)) (before : List MemPlace)
    (hval : ∀ (j : Nat) t v, Try.f3.params[j]? = some t → args[j]? = some v → Value.okWide Try.prog W .any base t v)
    (hW : DataW.Whole enc Try.prog Try.f3.params.toList Rows.slogAgreesSpec.vars false W args.toList ds gs before) :
    Calls Try.prog 3 args W fun e W' => ∃ v, e = .returned v ∧ Rows.slogAgreesSpec.post enc Try.prog Try.f3 false true false false W args v W' := by
  have hW0 := hW
  obtain ⟨p, q, hA, _⟩ := hW
  have ho : oksT Try.prog Try.f3.params.toList [shEnts, .int .i64, shEnts] = true := by kernel_rfl
  obtain ⟨xs, h1, h2, h3⟩ := trodAll_items ho hA fun j t v a b => hval j t v (by simpa using a) (by simpa using b)
  obtain ⟨x, _, rfl, hx, y, _, rfl, ⟨n, rfl, _⟩, z, _, rfl, hz, rfl⟩ := h1
  obtain ⟨l, rfl, _⟩ := fits_ents hx
  obtain ⟨m, rfl, hm⟩ := fits_ents hz
  refine (law_call h2 h3 (law_agrees hgrow l m n fun e he => (hm e he).1)).mono ?_
  rintro e W' ⟨rfl, hk, hos, hout, _⟩
  refine ⟨_, rfl, law_post (shs := [shEnts, .int .i64, shEnts]) (tb := 4) rfl ?_ rfl Try.underlying4 ho hW0 hk hos hout⟩
  intro ds hds
  match ds, hds with
  | [d1, d2, d3], _ => rfl
set_option maxRecDepth 100000 in
theorem agrees_lifted (hgrow : GrowOk) (os : Os) (started : os.Started) (H : Type) (enc : TypeId × Value → H) :
    ReturnsInHanded {} Try.checked os 3 .any (Rows.slogAgreesSpec.pre6 enc Try.prog Try.f3 Rows.slogAgreesRow.domain false) (Rows.slogAgreesSpec.post enc Try.prog Try.f3 false true false false) := by
  refine returnsInHanded_of_change (C := Try.checked) own started (by kernel_rfl) Try.func3
    (ChangeSpec.witness6 (enc := enc) (C := Try.checked) false ⟨#[], #[.slice none 0 0, .int .i64 0, .slice none 0 0], []⟩ 8 (by kernel_rfl) (by kernel_rfl) (by kernel_rfl) (by kernel_rfl)) ?_
  intro W base args ds gs before hval0 hW hcnd _
  exact agrees_contract hgrow H enc W base args ds gs before hval0 hW

theorem agrees_over (hgrow : GrowOk) : Rows.slogAgreesRow.holds Try.pinned (OpenSpec.ofChange Rows.slogAgreesSpec) :=
  OpenClaim.holds_of_wide 3 Try.f3 rfl rfl rfl rfl rfl rfl rfl ⟨rfl, rfl, rfl, rfl, rfl⟩ rfl rfl rfl rfl rfl (by kernel_rfl) Try.func3 (by kernel_rfl)
    (of_decide_eq_true (by kernel_rfl)) (by unfold Func.isWrapper; first | (rw [if_pos (by decide +kernel)]; kernel_rfl) | (rw [if_neg (by decide +kernel)]; exact ⟨rfl, rfl⟩))
    (fun os started H enc _ => agrees_lifted hgrow os started H enc)
theorem agrees_proved (hgrow : GrowOk) : Rows.SlogAgreesSaid := agrees_over hgrow
end Go.Ab
namespace Go.Proofs.Ytakdglpanebopaa
theorem slogAgrees_holds : Rows.SlogAgreesSaid := Go.Ab.agrees_proved Go.Ab.growOk
end Go.Proofs.Ytakdglpanebopaa
