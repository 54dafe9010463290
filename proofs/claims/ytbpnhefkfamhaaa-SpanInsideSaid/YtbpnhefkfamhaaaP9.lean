/- One text of the proof whose last text says what is proved. -/
import Derived.Test.YtbpnhefkfamhaaaP8
import Derived.Shelf.SlSortCmp.NoneTotal
set_option linter.unusedVariables false
set_option linter.unusedSimpArgs false
set_option maxRecDepth 100000
namespace Go.Ab
open Go.Proofs Go.Shelf

theorem sortNil : SortNil := by
  intro G σ Fr w cargs hok hcl hargs
  have hc0 : RepV G (.list []) (cargs.getD 0 undef) := (hargs 0 _ rfl).2
  have hc1 : RepV G (.fn 31) (cargs.getD 1 undef) := (hargs 1 _ rfl).2
  rw [RepV.fn] at hc1
  obtain ⟨ad, cap, hc, _⟩ := RepV.list.1 hc0
  have hca : cargs = #[.slice ad 0 cap, .func (.func 31) #[] #[]] := by
    rw [← hc1, show (.slice ad 0 cap : Value) = cargs.getD 0 undef from hc.symm]
    apply Array.ext
    · simpa using hcl
    · intro j h1 h2
      have : j = 0 ∨ j = 1 := by simp at h2; omega
      rcases this with rfl | rfl <;> simp [Array.getD, h1]
  have hcall := AnyF.slices_SortFunc_none sortT ad cap (.func (.func 31) #[] #[]) w
  rw [hca]
  refine Calls.mono hcall ?_
  rintro e w' ⟨rfl, rfl⟩
  refine ⟨_, _, _, G, fun _ => none, rfl, ⟨rfl, rfl⟩, Mem.le.refl G, ⟨hok.fixed, fun b lab h => by (cases h), fun b b' lab h => by (cases h), hok.frame, rfl, rfl, rfl, Nat.le_refl _, hok.apart⟩, rfl, ⟨#[], rfl, rfl⟩, rfl, ?_⟩
  intro i sv hi
  have : sv = .no := by
    have := List.mem_of_getElem? hi
    simpa using this
  subst this
  exact ⟨rfl, trivial⟩
end Go.Ab
