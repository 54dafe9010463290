/- AllowNobody: root, and who isn't there, may nothing, and what another tenant's users and roles are given counts for nothing: whatever the input, the law returns true and changes nothing. -/
import Derived.Test.YtoombangidlpjaaA30
import Derived.Test.YtoombangidlpjaaA22
import Derived.Test.YtoombangidlpjaaRows
import Derived.Test.YtoombangidlpjaaChecked
import Derived.JoinedCond
import Derived.WalkKit
import Derived.ProofKit
import Derived.OpenShut
set_option linter.unusedVariables false
set_option linter.unusedSimpArgs false
namespace Go.Ab
open Go.Proofs Go.Proofs.Ytoombangidlpjaa
open Go.ChangeShapes Go.WideShapes Go.ChangeAt Go.RowKit
set_option maxRecDepth 100000

theorem allowNobody_own : ownKnob Try.prog.godebug = none := by kernel_rfl
theorem allowNobody_contract (H : Type) (enc : TypeId × Value → H) (W : World) (base : Nat) (args : Array Value) (ds gs : List (DataW H)) (before : List MemPlace)
    (hval : ∀ (j : Nat) t v, Try.f6.params[j]? = some t → args[j]? = some v → Value.okWide Try.prog W .any base t v)
    (hW : DataW.Whole enc Try.prog Try.f6.params.toList Rows.allowNobodySpec.vars false W args.toList ds gs before) :
    Calls Try.prog 6 args W fun e W' => ∃ v, e = .returned v ∧ Rows.allowNobodySpec.post enc Try.prog Try.f6 false true false false W args v W' := by
  have hW0 := hW
  obtain ⟨p, q, hA, _⟩ := hW
  have ho : oksT Try.prog Try.f6.params.toList [shCmds, shCmd, shAsk] = true := by kernel_rfl
  obtain ⟨xs, h1, h2, h3⟩ := trodAll_items ho hA fun j t v a b => hval j t v (by simpa using a) (by simpa using b)
  obtain ⟨x, _, rfl, hx, z, _, rfl, hz, y, _, rfl, hy, rfl⟩ := h1
  obtain ⟨l, rfl⟩ := fits_cmds hx
  obtain ⟨c0, rfl⟩ := fits_cmd hz
  obtain ⟨u, a, c, rfl⟩ := fits_ask hy
  obtain ⟨v0, hv0⟩ : ∃ v, args.toList[0]? = some v := ⟨_, List.getElem?_eq_getElem (by rw [← h2]; simp)⟩
  obtain ⟨v1, hv1⟩ : ∃ v, args.toList[2]? = some v := ⟨_, List.getElem?_eq_getElem (by rw [← h2]; simp)⟩
  have hb0 := list_lenV (h3 0 _ _ rfl hv0)
  rw [List.length_map] at hb0
  have hb1 := ask_len (h3 2 _ _ rfl hv1)
  refine (law_call h2 h3 (law_nobody l c0 u a c hb0 hb1.1 hb1.2)).mono ?_
  rintro e W' ⟨rfl, hk, hos, hout, _⟩
  refine ⟨_, rfl, law_post (shs := [shCmds, shCmd, shAsk]) (tb := 4) rfl ?_ rfl Try.underlying4 ho hW0 hk hos hout⟩
  intro ds hds
  match ds, hds with
  | [d0, d1, d2], _ => rfl
theorem allowNobody_lifted (os : Os) (started : os.Started) (H : Type) (enc : TypeId × Value → H) :
    ReturnsInHanded {} Try.checked os 6 .any (Rows.allowNobodySpec.pre6 enc Try.prog Try.f6 Rows.allowNobodyRow.domain false) (Rows.allowNobodySpec.post enc Try.prog Try.f6 false true false false) := by
  refine returnsInHanded_of_change (C := Try.checked) allowNobody_own started (by kernel_rfl) Try.func6
    (ChangeSpec.witness6 (enc := enc) (C := Try.checked) false ⟨#[], #[.slice none 0 0, .agg #[.int .i64 0, .int .i64 0, .string .empty, .int .i64 0, .string .empty, .string .empty, .string .empty, .string .empty, .int .i64 0, .int .i64 0, .string .empty, .string .empty, .bool false, .bool false, .int .i64 0, .slice none 0 0, .slice none 0 0, .slice none 0 0], .agg #[.string .empty, .slice none 0 0, .slice none 0 0]], []⟩ 8 (by kernel_rfl) (by kernel_rfl) (by kernel_rfl) (by kernel_rfl)) ?_
  intro W base args ds gs before hval0 hW hcnd _
  exact allowNobody_contract H enc W base args ds gs before hval0 hW
theorem allowNobody_over : Rows.allowNobodyRow.holds Try.pinned (OpenSpec.ofChange Rows.allowNobodySpec) :=
  OpenClaim.holds_of_wide 6 Try.f6 rfl rfl rfl rfl rfl rfl rfl ⟨rfl, rfl, rfl, rfl, rfl⟩ rfl rfl rfl rfl rfl (by kernel_rfl) Try.func6 (by kernel_rfl)
    (of_decide_eq_true (by kernel_rfl)) (by unfold Func.isWrapper; first | (rw [if_pos (by decide +kernel)]; kernel_rfl) | (rw [if_neg (by decide +kernel)]; exact ⟨rfl, rfl⟩))
    (fun os started H enc _ => allowNobody_lifted os started H enc)
end Go.Ab
namespace Go.Proofs.Ytoombangidlpjaa
theorem allowNobody_holds : Rows.AllowNobodySaid := Go.Ab.allowNobody_over
end Go.Proofs.Ytoombangidlpjaa
