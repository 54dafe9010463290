/- One text of the proof whose last text says what is proved. -/
import Derived.Test.YtbpnhefkfamhaaaP15
import Derived.Test.YtbpnhefkfamhaaaAb24b
set_option linter.unusedVariables false
set_option linter.unusedSimpArgs false
namespace Go.Ab
abbrev shSp : Sh := .st [.str, .str]
abbrev shSps : Sh := .sl 2 shSp
theorem fits_sp {x : I} (h : Fits shSp x) : ∃ s : Sp, x = s.toI := by
  obtain ⟨_, rfl, a, _, rfl, ⟨f, rfl⟩, b, _, rfl, ⟨t, rfl⟩, rfl⟩ := h
  exact ⟨⟨f, t⟩, rfl⟩
theorem fits_sps {x : I} (h : Fits shSps x) : ∃ l : List Sp, x = .list (sps l) := by
  obtain ⟨xs, rfl, h⟩ := h
  have aux : ∀ xs : List I, (∀ y ∈ xs, Fits shSp y ∧ y.size = 2) → ∃ l : List Sp, xs = sps l := by
    intro xs
    induction xs with
    | nil => intro _; exact ⟨[], rfl⟩
    | cons y ys ih =>
      intro h
      obtain ⟨l, rfl⟩ := ih fun z hz => h z (List.mem_cons_of_mem _ hz)
      obtain ⟨s, rfl⟩ := fits_sp (h y (List.mem_cons_self ..)).1
      exact ⟨s :: l, rfl⟩
  obtain ⟨l, rfl⟩ := aux xs h
  exact ⟨l, rfl⟩
end Go.Ab
