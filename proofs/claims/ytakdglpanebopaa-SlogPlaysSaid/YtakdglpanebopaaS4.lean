/- One text of the proof whose last text says what is proved. -/
import Derived.Test.YtakdglpanebopaaS3
set_option linter.unusedVariables false
set_option linter.unusedSimpArgs false
set_option maxRecDepth 100000
namespace Go.Ab
open Go.Proofs

def fromM (ix : Int) (es : List Ent) (i most : Int) : List Ent :=
  if ix + es.length < i ∨ most < 1 then [] else (es.drop (max i (ix + 1) - ix - 1).toNat).take most.toNat
theorem spec_from (ix tm : Int) (es : List Ent) (i most : Int) (h : Right ix tm es) : Fn Try.prog F_slog_Log_From [.v (logI ix tm es), .v (.int .i64 i), .v (.int .i64 most)] (Is (.v (ents (fromM ix es i most))) [.no, .no, .no]) := by
  refine of_slog_Log_From ?_ (by simp)
  have hl := h.last
  have hix := h.hix
  have hlen := h.len
  have hsz := ents_size es
  by_cases h1 : ix + es.length < i
  · have n1 : ¬ decide ((lastOf ix tm es).1 < i) = false := by simp [hl, h1]
    repeat' ((conv => whnf); first
      | (refine And.intro (fun hb => ?_) (fun hb => ?_) <;> first | (exact absurd hb (by first | assumption | decide)) | (rw [hb]) | skip)
      | (refine Exists.intro ?_ ?_; focus (and_intros <;> first | omega | exact rfl | assumption | (intro _ hh; cases hh; done) | exact all_size (by rfl) | (simp; done) | decide))
      | (intro hfact)
      | (refine Drawn.mk (by kernel_rfl) (fun hfact => ?_))
      | (refine CallWp.mk ⟨_, spec_last _ _ _, ?_⟩; rintro _ _ ⟨rfl, rfl⟩))
    all_goals (try (conv => whnf))
    exact Done.mk ⟨by simp [fromM, h1, resSV], by kernel_rfl⟩ (by kernel_rfl)
  have n1 : ¬ decide ((lastOf ix tm es).1 < i) = true := by rw [hl]; simp; omega
  by_cases h2 : most < 1
  · have n2 : ¬ decide (most < 1) = false := by simp [h2]
    repeat' ((conv => whnf); first
      | (refine And.intro (fun hb => ?_) (fun hb => ?_) <;> first | (exact absurd hb (by first | assumption | decide)) | (rw [hb]) | skip)
      | (refine Exists.intro ?_ ?_; focus (and_intros <;> first | omega | exact rfl | assumption | (intro _ hh; cases hh; done) | exact all_size (by rfl) | (simp; done) | decide))
      | (intro hfact)
      | (refine Drawn.mk (by kernel_rfl) (fun hfact => ?_))
      | (refine CallWp.mk ⟨_, spec_last _ _ _, ?_⟩; rintro _ _ ⟨rfl, rfl⟩))
    all_goals (try (conv => whnf))
    exact Done.mk ⟨by simp [fromM, h2, resSV], by kernel_rfl⟩ (by kernel_rfl)
  have n2 : ¬ decide (most < 1) = true := by simp; omega
  have hw1 : IntKind.i64.wrap (ix + 1) = ix + 1 := wrap_id (by omega)
  have hw2 : IntKind.i64.wrap (max i (ix + 1) - ix) = max i (ix + 1) - ix := wrap_id (by omega)
  have hw3 : IntKind.i64.wrap (max i (ix + 1) - ix - 1) = max i (ix + 1) - ix - 1 := wrap_id (by omega)
  have hA : 0 ≤ max i (ix + 1) - ix - 1 ∧ max i (ix + 1) - ix - 1 ≤ es.length := by omega
  generalize hAe : max i (ix + 1) - ix - 1 = A at hA hw3
  have hw4 : IntKind.i64.wrap (((es.map Ent.toI).length : Int) - A) = (es.length : Int) - A := by rw [List.length_map]; exact wrap_id (by omega)
  have hw5 : IntKind.i64.wrap (min ((es.length : Int) - A) most + A) = min ((es.length : Int) - A) most + A := wrap_id (by omega)
  have hs2 : ∀ u ∈ ((es.map Ent.toI).take (min ((es.length : Int) - A) most + A).toNat).drop A.toNat, u.size = 3 := fun u hu => hsz u (List.mem_of_mem_take (List.mem_of_mem_drop hu))
  have hl2 : (((es.map Ent.toI).take (min ((es.length : Int) - A) most + A).toNat).drop A.toNat).length ≤ 1000000 := by simp; omega
  have hn : 0 ≤ A ∧ A ≤ min ((es.length : Int) - A) most + A ∧ min ((es.length : Int) - A) most + A ≤ ((es.map Ent.toI).length : Int) := by rw [List.length_map]; omega
  have hn1 := hn.1
  have hn2 := hn.2.1
  have hn3 := hn.2.2
  repeat' ((conv => whnf); first
    | (refine And.intro (fun hb => ?_) (fun hb => ?_) <;> first | (exact absurd hb (by first | assumption | decide)) | (rw [hb]) | skip)
    | (refine Exists.intro ?_ ?_; focus (and_intros <;> first | omega | exact rfl | assumption | (intro _ hh; cases hh; done) | exact all_size (by rfl) | (simp; done) | decide))
    | (intro hfact)
    | (refine Drawn.mk (by kernel_rfl) (fun hfact => ?_))
    | (refine CallWp.mk ⟨_, spec_last _ _ _, ?_⟩; rintro _ _ ⟨rfl, rfl⟩)
    | ((try dsimp only); rw [hw1])
    | ((try dsimp only); rw [hw2])
    | ((try dsimp only); rw [hAe])
    | ((try dsimp only); rw [hw3])
    | ((try dsimp only); rw [hw4])
    | ((try dsimp only); rw [hw5])
    | (refine CallWp.mk ⟨_, spec_clone _ hs2 hl2, ?_⟩; rintro _ _ ⟨rfl, rfl⟩))
  all_goals (try (conv => whnf))


  refine Done.mk ⟨congrArg (fun l => SV.v (.list l)) ?_, by kernel_rfl⟩ (by kernel_rfl)
  rw [fromM, if_neg (by omega), hAe, List.map_take, List.map_drop, List.drop_take]
  have he : (min ((es.length : Int) - A) most + A).toNat - A.toNat = min (es.length - A.toNat) most.toNat := by omega
  rw [he]
  apply List.ext_getElem?
  intro j
  simp only [List.getElem?_take, List.getElem?_drop, List.getElem?_map]
  by_cases hj : j < most.toNat
  · by_cases hj2 : j < es.length - A.toNat
    · rw [if_pos (by omega), if_pos hj]
    · rw [if_neg (by omega), if_pos hj, List.getElem?_eq_none (by omega)]
      rfl
  · rw [if_neg (by omega), if_neg hj]
end Go.Ab

