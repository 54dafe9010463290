/- Whatever is done with a log, from any beginning on, is answered as the document says, and leaves what it says: exchequerlaw11.SlogPlays answers true for every input, and changes no argument; no condition. -/
import Derived.Test.YtakdglpanebopaaS22
import Derived.Test.YtakdglpanebopaaS12
set_option linter.unusedVariables false
set_option linter.unusedSimpArgs false
namespace Go.Ab
open Go.Proofs Go.Proofs.Ytakdglpanebopaa
open Go.ChangeShapes Go.WideShapes Go.ChangeAt Go.RowKit
set_option maxRecDepth 100000

abbrev shOp : Sh := .st [.int .i64, .int .i64, .int .i64, .str, shEnts]
theorem fits_ops {x : I} (h : Fits (.sl 5 shOp) x) : ∃ s : List Opr, x = .list (s.map Opr.toI) ∧ ∀ o ∈ s, ∀ e ∈ o.l, i64r e.i := by
  obtain ⟨xs, rfl, h⟩ := h
  have aux : ∀ xs : List I, (∀ y ∈ xs, Fits shOp y ∧ y.size = 5) → ∃ s : List Opr, xs = s.map Opr.toI ∧ ∀ o ∈ s, ∀ e ∈ o.l, i64r e.i := by
    intro xs
    induction xs with
    | nil => intro _; exact ⟨[], rfl, by simp⟩
    | cons y ys ih =>
      intro h
      obtain ⟨s, h1, h2⟩ := ih fun z hz => h z (List.mem_cons_of_mem _ hz)
      obtain ⟨zs, rfl, a, _, rfl, ⟨k, rfl, _⟩, b, _, rfl, ⟨n, rfl, _⟩, c, _, rfl, ⟨m, rfl, _⟩, d, _, rfl, ⟨t, rfl⟩, f, _, rfl, hf, rfl⟩ := (h y (List.mem_cons_self ..)).1
      obtain ⟨l, rfl, hl⟩ := fits_ents hf
      refine ⟨⟨k, n, m, t, l⟩ :: s, by rw [h1]; rfl, ?_⟩
      intro o ho
      rcases List.mem_cons.mp ho with rfl | ho
      · exact fun e he => (hl e he).1
      · exact h2 o ho
  obtain ⟨s, h1, h2⟩ := aux xs h
  exact ⟨s, by rw [h1], h2⟩

theorem plays_contract (hgrow : GrowOk) (H : Type) (enc : TypeId × Value → H) (W : World) (base : Nat) (args : Array Value) (ds gs : List (DataW H)) (before : List MemPlace)
    (hval : ∀ (j : Nat) t v, Try.f6.params[j]? = some t → args[j]? = some v → Value.okWide Try.prog W .any base t v)
    (hW : DataW.Whole enc Try.prog Try.f6.params.toList Rows.slogPlaysSpec.vars false W args.toList ds gs before) :
    Calls Try.prog 6 args W fun e W' => ∃ v, e = .returned v ∧ Rows.slogPlaysSpec.post enc Try.prog Try.f6 false true false false W args v W' := by
  have hW0 := hW
  obtain ⟨p, q, hA, _⟩ := hW
  have ho : oksT Try.prog Try.f6.params.toList [.ar 1 2 (.int .i64), shEnts, .sl 5 shOp] = true := by kernel_rfl
  obtain ⟨xs, h1, h2, h3⟩ := trodAll_items ho hA fun j t v a b => hval j t v (by simpa using a) (by simpa using b)
  obtain ⟨x, _, rfl, ⟨xs, rfl, hx2, hx⟩, y, _, rfl, hy, z, _, rfl, hz, rfl⟩ := h1
  obtain ⟨l, rfl, _⟩ := fits_ents hy
  obtain ⟨s, rfl, hs⟩ := fits_ops hz
  obtain ⟨b0, b1, rfl⟩ : ∃ b0 b1 : Int, xs = [.int .i64 b0, .int .i64 b1] := by
    match xs, hx2 with
    | [u, v], _ =>
      obtain ⟨⟨b0, rfl, _⟩, _⟩ := hx u (by simp)
      obtain ⟨⟨b1, rfl, _⟩, _⟩ := hx v (by simp)
      exact ⟨b0, b1, rfl⟩
  refine (law_call h2 h3 (law_plays hgrow b0 b1 l s hs)).mono ?_
  rintro e W' ⟨rfl, hk, hos, hout, _⟩
  refine ⟨_, rfl, law_post (shs := [.ar 1 2 (.int .i64), shEnts, .sl 5 shOp]) (tb := 4) rfl ?_ rfl Try.underlying4 ho hW0 hk hos hout⟩
  intro ds hds
  match ds, hds with
  | [d1, d2, d3], _ => rfl
theorem plays_lifted (hgrow : GrowOk) (os : Os) (started : os.Started) (H : Type) (enc : TypeId × Value → H) :
    ReturnsInHanded {} Try.checked os 6 .any (Rows.slogPlaysSpec.pre6 enc Try.prog Try.f6 Rows.slogPlaysRow.domain false) (Rows.slogPlaysSpec.post enc Try.prog Try.f6 false true false false) := by
  refine returnsInHanded_of_change (C := Try.checked) own started (by kernel_rfl) Try.func6
    (ChangeSpec.witness6 (enc := enc) (C := Try.checked) false ⟨#[], #[.agg #[.int .i64 0, .int .i64 0], .slice none 0 0, .slice none 0 0], []⟩ 8 (by kernel_rfl) (by kernel_rfl) (by kernel_rfl) (by kernel_rfl)) ?_
  intro W base args ds gs before hval0 hW hcnd _
  exact plays_contract hgrow H enc W base args ds gs before hval0 hW

theorem plays_over (hgrow : GrowOk) : Rows.slogPlaysRow.holds Try.pinned (OpenSpec.ofChange Rows.slogPlaysSpec) :=
  OpenClaim.holds_of_wide 6 Try.f6 rfl rfl rfl rfl rfl rfl rfl ⟨rfl, rfl, rfl, rfl, rfl⟩ rfl rfl rfl rfl rfl (by kernel_rfl) Try.func6 (by kernel_rfl)
    (of_decide_eq_true (by kernel_rfl)) (by unfold Func.isWrapper; first | (rw [if_pos (by decide +kernel)]; kernel_rfl) | (rw [if_neg (by decide +kernel)]; exact ⟨rfl, rfl⟩))
    (fun os started H enc _ => plays_lifted hgrow os started H enc)
theorem plays_proved (hgrow : GrowOk) : Rows.SlogPlaysSaid := plays_over hgrow
end Go.Ab
namespace Go.Proofs.Ytakdglpanebopaa
theorem slogPlays_holds : Rows.SlogPlaysSaid := Go.Ab.plays_proved Go.Ab.growOk
end Go.Proofs.Ytakdglpanebopaa
