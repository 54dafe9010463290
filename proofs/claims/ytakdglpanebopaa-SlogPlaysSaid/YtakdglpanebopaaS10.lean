/- One text of the proof whose last text says what is proved. -/
import Derived.Test.YtakdglpanebopaaS9
import Derived.Test.YtakdglpanebopaaAb24
import Derived.Test.YtakdglpanebopaaRows
import Derived.Test.YtakdglpanebopaaChecked
import Derived.JoinedCond
set_option linter.unusedVariables false
set_option linter.unusedSimpArgs false
namespace Go.Ab
open Go.Proofs Go.Proofs.Ytakdglpanebopaa
open Go.ChangeShapes Go.WideShapes Go.ChangeAt Go.RowKit
set_option maxRecDepth 100000

theorem own : ownKnob Try.prog.godebug = none := by kernel_rfl
abbrev shEnt : Sh := .st [.int .i64, .int .i64, .str]
abbrev shEnts : Sh := .sl 3 shEnt
theorem fits_ents {x : I} (h : Fits shEnts x) : ∃ es : List Ent, x = ents es ∧ ∀ e ∈ es, i64r e.i ∧ i64r e.t := by
  obtain ⟨xs, rfl, h⟩ := h
  have aux : ∀ xs : List I, (∀ y ∈ xs, Fits shEnt y ∧ y.size = 3) → ∃ es : List Ent, xs = es.map Ent.toI ∧ ∀ e ∈ es, i64r e.i ∧ i64r e.t := by
    intro xs
    induction xs with
    | nil => intro _; exact ⟨[], rfl, by simp⟩
    | cons y ys ih =>
      intro h
      obtain ⟨es, h1, h2⟩ := ih fun z hz => h z (List.mem_cons_of_mem _ hz)
      obtain ⟨zs, rfl, a, _, rfl, ⟨n, rfl, hn⟩, b, _, rfl, ⟨m, rfl, hm⟩, c, _, rfl, ⟨s, rfl⟩, rfl⟩ := (h y (List.mem_cons_self ..)).1
      refine ⟨⟨n, m, s⟩ :: es, by rw [h1]; rfl, ?_⟩
      intro e he
      rcases List.mem_cons.mp he with rfl | he
      · constructor
        · simpa [i64r, Lit.wf, IntKind.min, IntKind.max, IntKind.signed, IntKind.bits] using hn
        · simpa [i64r, Lit.wf, IntKind.min, IntKind.max, IntKind.signed, IntKind.bits] using hm
      · exact h2 e he
  obtain ⟨es, h1, h2⟩ := aux xs h
  exact ⟨es, by rw [h1], h2⟩

theorem newer_contract (hgrow : GrowOk) (H : Type) (enc : TypeId × Value → H) (W : World) (base : Nat) (args : Array Value) (ds gs : List (DataW H)) (before : List MemPlace)
    (hval : ∀ (j : Nat) t v, Try.f4.params[j]? = some t → args[j]? = some v → Value.okWide Try.prog W .any base t v)
    (hW : DataW.Whole enc Try.prog Try.f4.params.toList Rows.slogNewerSpec.vars false W args.toList ds gs before) :
    Calls Try.prog 4 args W fun e W' => ∃ v, e = .returned v ∧ Rows.slogNewerSpec.post enc Try.prog Try.f4 false true false false W args v W' := by
  have hW0 := hW
  obtain ⟨p, q, hA, _⟩ := hW
  have ho : oksT Try.prog Try.f4.params.toList [shEnts, shEnts, .int .i64] = true := by kernel_rfl
  obtain ⟨xs, h1, h2, h3⟩ := trodAll_items ho hA fun j t v a b => hval j t v (by simpa using a) (by simpa using b)
  obtain ⟨x, _, rfl, hx, y, _, rfl, hy, z, _, rfl, ⟨n, rfl, _⟩, rfl⟩ := h1
  obtain ⟨l, rfl, _⟩ := fits_ents hx
  obtain ⟨m, rfl, _⟩ := fits_ents hy
  refine (law_call h2 h3 (law_newer hgrow l m n)).mono ?_
  rintro e W' ⟨rfl, hk, hos, hout, _⟩
  refine ⟨_, rfl, law_post (shs := [shEnts, shEnts, .int .i64]) (tb := 4) rfl ?_ rfl Try.underlying4 ho hW0 hk hos hout⟩
  intro ds hds
  match ds, hds with
  | [d1, d2, d3], _ => rfl
end Go.Ab

