/- SpanPoints: a key is in a union just if it is in one of the right spans, and in what is left just if it isn't in what went: whatever the input, the law returns true and changes nothing. -/
import Derived.Test.YtbpnhefkfamhaaaP15b
import Derived.Test.YtbpnhefkfamhaaaP21
import Derived.Test.YtbpnhefkfamhaaaAb24b
import Derived.Test.YtbpnhefkfamhaaaRows
import Derived.Test.YtbpnhefkfamhaaaChecked
import Derived.JoinedCond
import Derived.WalkKit
import Derived.ProofKit
import Derived.OpenShut
set_option linter.unusedVariables false
set_option linter.unusedSimpArgs false
namespace Go.Ab
open Go.Proofs Go.Proofs.Ytbpnhefkfamhaaa
open Go.ChangeShapes Go.WideShapes Go.ChangeAt Go.RowKit
set_option maxRecDepth 100000

theorem spanPoints_own : ownKnob Try.prog.godebug = none := by kernel_rfl
theorem spanPoints_contract (H : Type) (enc : TypeId × Value → H) (W : World) (base : Nat) (args : Array Value) (ds gs : List (DataW H)) (before : List MemPlace)
    (hval : ∀ (j : Nat) t v, Try.f8.params[j]? = some t → args[j]? = some v → Value.okWide Try.prog W .any base t v)
    (hW : DataW.Whole enc Try.prog Try.f8.params.toList Rows.spanPointsSpec.vars false W args.toList ds gs before)
    (hsz : (DataW.weightsEach Try.prog (Try.f8.params.toList ++ Rows.spanPointsSpec.plain.varTypes Try.prog) (ds ++ gs)).all (· ≤ reachBytes) = true) :
    Calls Try.prog 8 args W fun e W' => ∃ v, e = .returned v ∧ Rows.spanPointsSpec.post enc Try.prog Try.f8 false true false false W args v W' := by
  have hW0 := hW
  obtain ⟨p, q, hA, _⟩ := hW
  have ho : oksT Try.prog Try.f8.params.toList [shSps, shSp, .str] = true := by kernel_rfl
  obtain ⟨xs, h1, h2, h3⟩ := trodAll_items ho hA fun j t v a b => hval j t v (by simpa using a) (by simpa using b)
  obtain ⟨x, _, rfl, hx, y, _, rfl, hy, z, _, rfl, hz, rfl⟩ := h1
  obtain ⟨l, rfl⟩ := fits_sps hx
  obtain ⟨s, rfl⟩ := fits_sp hy
  obtain ⟨k, rfl⟩ := hz
  obtain ⟨v0, hv0⟩ : ∃ v, args.toList[0]? = some v := ⟨_, List.getElem?_eq_getElem (by rw [← h2]; simp)⟩
  have hb := law_bound (j := 0) hA hsz (t := 22) rfl Try.underlying22 hv0 (h3 0 _ _ rfl hv0)
  rw [List.length_map, show Try.prog.bytesOf 29 = 32 by kernel_rfl] at hb
  refine (law_call h2 h3 (law_spoints l s k hb)).mono ?_
  rintro e W' ⟨rfl, hk, hos, hout, _⟩
  refine ⟨_, rfl, law_post (shs := [shSps, shSp, .str]) (tb := 4) rfl ?_ rfl Try.underlying4 ho hW0 hk hos hout⟩
  intro ds hds
  match ds, hds with
  | [d0, d1, d2], _ => rfl
theorem spanPoints_lifted (os : Os) (started : os.Started) (H : Type) (enc : TypeId × Value → H) :
    ReturnsInHanded {} Try.checked os 8 .any (Rows.spanPointsSpec.pre6 enc Try.prog Try.f8 Rows.spanPointsRow.domain false) (Rows.spanPointsSpec.post enc Try.prog Try.f8 false true false false) := by
  refine returnsInHanded_of_change_sized (C := Try.checked) spanPoints_own started (by kernel_rfl) Try.func8
    (ChangeSpec.witness6 (enc := enc) (C := Try.checked) false ⟨#[], #[.slice none 0 0, .agg #[.string .empty, .string .empty], .string .empty], []⟩ 8 (by kernel_rfl) (by kernel_rfl) (by kernel_rfl) (by kernel_rfl)) ?_
  intro W base args ds gs before hval0 hW hcnd hsz _
  exact spanPoints_contract H enc W base args ds gs before hval0 hW hsz
theorem spanPoints_over : Rows.spanPointsRow.holds Try.pinned (OpenSpec.ofChange Rows.spanPointsSpec) :=
  OpenClaim.holds_of_wide 8 Try.f8 rfl rfl rfl rfl rfl rfl rfl ⟨rfl, rfl, rfl, rfl, rfl⟩ rfl rfl rfl rfl rfl (by kernel_rfl) Try.func8 (by kernel_rfl)
    (of_decide_eq_true (by kernel_rfl)) (by unfold Func.isWrapper; first | (rw [if_pos (by decide +kernel)]; kernel_rfl) | (rw [if_neg (by decide +kernel)]; exact ⟨rfl, rfl⟩))
    (fun os started H enc _ => spanPoints_lifted os started H enc)
end Go.Ab
namespace Go.Proofs.Ytbpnhefkfamhaaa
theorem spanPoints_holds : Rows.SpanPointsSaid := Go.Ab.spanPoints_over
end Go.Proofs.Ytbpnhefkfamhaaa
