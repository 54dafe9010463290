/- One text of the proof whose last text says what is proved. -/
import Derived.Test.YtbpnhefkfamhaaaQ2
import Derived.Test.YtbpnhefkfamhaaaP9
set_option linter.unusedVariables false
set_option linter.unusedSimpArgs false
set_option maxRecDepth 100000
set_option maxHeartbeats 4000000
namespace Go.Ab
open Go.Proofs

theorem uStep_length (u : List Sp) (s : Sp) : (uStep u s).length ≤ u.length + 1 := by
  unfold uStep
  split
  · simp
  · split
    · simp
    · split
      · simp
      · omega
theorem unionOf_length (p : List Sp) : (unionOf p).length ≤ p.length := by
  have : ∀ (p u : List Sp), (p.foldl uStep u).length ≤ u.length + p.length := by
    intro p
    induction p with
    | nil => intro u; simp
    | cons s r ih =>
      intro u
      have h1 := ih (uStep u s)
      have h2 := uStep_length u s
      simp only [List.foldl_cons, List.length_cons]
      omega
  have h := this p []
  rw [List.length_nil, Nat.zero_add] at h
  exact h
theorem uni_length (l : List Sp) : (uni l).length ≤ l.length := by
  unfold uni
  refine Nat.le_trans (unionOf_length _) ?_
  rw [List.length_mergeSort]
  exact List.length_filter_le ..
theorem law_sunions (l : List Sp) : Fn Try.prog F_exchequerlaw05_SpanUnions [.v (.list (sps l))] (Is (.v (.bool true)) [.no]) := by
  refine of_exchequerlaw05_SpanUnions ?_ (by simp)
  have haw := spec_awakeS sortNil
  have hgr := spec_greatS l []
  by_cases hg : (greatS 0 l || greatT []) = true
  · rw [hg] at hgr
    repeat' ((conv => whnf); first
      | (refine And.intro (fun hb => ?_) (fun hb => ?_) <;> first | (exact absurd hb (by first | assumption | decide)) | (rw [hb]) | skip)
      | (refine Exists.intro ?_ ?_; focus (and_intros <;> first | omega | exact rfl | assumption | (intro _ hh; cases hh; done) | exact all_size (by rfl) | (simp; done) | decide))
      | (intro hfact)
      | (refine Drawn.mk (by kernel_rfl) (fun hfact => ?_))
      | (refine CallWp.mk ⟨_, haw, ?_⟩; rintro _ _ ⟨rfl, rfl⟩)
      | (refine CallWp.mk ⟨_, hgr, ?_⟩; rintro _ _ ⟨rfl, rfl⟩))
    all_goals (try (conv => whnf))
    exact Done.mk ⟨rfl, by kernel_rfl⟩ (by kernel_rfl)
  · have hg' : (greatS 0 l || greatT []) = false := by simpa using hg
    rw [hg'] at hgr
    have hl := (greatS_no (Bool.or_eq_false_iff.1 hg').1).1
    have hul := uni_length l
    have b1 : (([] : List I).length + (sps l).length) * 32 ≤ 140737488355328 := by rw [List.length_map]; show (0 + l.length) * 32 ≤ _; omega
    have b2 : ([] : List I).length + (sps l).length ≤ maxLen := by rw [List.length_map]; show 0 + l.length ≤ 9223372036854775807; omega
    have b3 := sps_size l
    have hu := spec_union sortNil l (by omega)
    have hu2 := spec_union sortNil (uni l) (by omega)
    rw [uni_uni] at hu2
    have hru := spec_srunion l (by omega)
    rw [rUnion_eq] at hru
    have hs1 := spec_ssame_yes (rfl : uni l = uni l)
    have hs2 := spec_ssame_yes (rfl : l = l)
    repeat' ((conv => whnf); first
      | (refine And.intro (fun hb => ?_) (fun hb => ?_) <;> first | (exact absurd hb (by first | assumption | decide)) | (rw [hb]) | skip)
      | (refine Exists.intro ?_ ?_; focus (and_intros <;> first | omega | exact rfl | assumption | (intro _ hh; cases hh; done) | exact all_size (by rfl) | (simp; done) | decide))
      | (intro hfact)
      | (refine Drawn.mk (by kernel_rfl) (fun hfact => ?_))
      | (refine CallWp.mk ⟨_, haw, ?_⟩; rintro _ _ ⟨rfl, rfl⟩)
      | (refine CallWp.mk ⟨_, hgr, ?_⟩; rintro _ _ ⟨rfl, rfl⟩)
      | (refine CallWp.mk ⟨_, hu, ?_⟩; rintro _ _ ⟨rfl, rfl⟩)
      | (refine CallWp.mk ⟨_, hru, ?_⟩; rintro _ _ ⟨rfl, rfl⟩)
      | (refine CallWp.mk ⟨_, hs1, ?_⟩; rintro _ _ ⟨rfl, rfl⟩)
      | (refine CallWp.mk ⟨_, hu2, ?_⟩; rintro _ _ ⟨rfl, rfl⟩)
      | (refine CallWp.mk ⟨_, hs2, ?_⟩; rintro _ _ ⟨rfl, rfl⟩))
    all_goals (try (conv => whnf))
    exact Done.mk ⟨rfl, by kernel_rfl⟩ (by kernel_rfl)
theorem law_sinside (a b : Sp) : Fn Try.prog F_exchequerlaw05_SpanInside [.v a.toI, .v b.toI] (Is (.v (.bool true)) [.no, .no]) := by
  refine of_exchequerlaw05_SpanInside ?_ (by simp)
  have haw := spec_awakeS sortNil
  have hgr := spec_greatS [a, b] []
  by_cases hg : (greatS 0 [a, b] || greatT []) = true
  · rw [hg] at hgr
    repeat' ((conv => whnf); first
      | (refine And.intro (fun hb => ?_) (fun hb => ?_) <;> first | (exact absurd hb (by first | assumption | decide)) | (rw [hb]) | skip)
      | (refine Exists.intro ?_ ?_; focus (and_intros <;> first | omega | exact rfl | assumption | (intro _ hh; cases hh; done) | exact all_size (by rfl) | (simp; done) | decide))
      | (intro hfact)
      | (refine Drawn.mk (by kernel_rfl) (fun hfact => ?_))
      | (refine CallWp.mk ⟨_, haw, ?_⟩; rintro _ _ ⟨rfl, rfl⟩)
      | (refine CallIs.mk ⟨_, _, hgr, ?_⟩))
    all_goals (try (conv => whnf))
    exact Done.mk ⟨rfl, by kernel_rfl⟩ (by kernel_rfl)
  · rw [show (greatS 0 [a, b] || greatT []) = false from by simpa using hg] at hgr
    have hi := spec_inside a b
    have hc := spec_srcovers [b] a (by simp)
    by_cases hb0 : SpR b
    · have n1 : ¬ decide (SpR b) = false := by simp [hb0]
      rw [show decide (SpIn a b) = decide (RCov [b] a) from by rw [decide_eq_decide, spIn_iff]; simp [hb0]] at hi
      repeat' ((conv => whnf); first
        | (refine And.intro (fun hb => ?_) (fun hb => ?_) <;> first | (exact absurd hb (by first | assumption | decide)) | (rw [hb]) | skip)
        | (refine Exists.intro ?_ ?_; focus (and_intros <;> first | omega | exact rfl | assumption | (intro _ hh; cases hh; done) | exact all_size (by rfl) | (simp; done) | decide))
        | (intro hfact)
        | (refine Drawn.mk (by kernel_rfl) (fun hfact => ?_))
        | (refine CallWp.mk ⟨_, haw, ?_⟩; rintro _ _ ⟨rfl, rfl⟩)
        | (refine CallIs.mk ⟨_, _, hgr, ?_⟩)
        | (refine CallIs.mk ⟨_, _, hi, ?_⟩)
        | (refine CallIs.mk ⟨_, _, spec_srright _, ?_⟩)
        | (refine CallIs.mk ⟨_, _, hc, ?_⟩))
      all_goals (try (conv => whnf))
      all_goals exact Done.mk ⟨SV.bool_congr (by simp), by kernel_rfl⟩ (by kernel_rfl)
    · have n1 : ¬ decide (SpR b) = true := by simp [hb0]
      rw [show decide (SpIn a b) = false from by rw [decide_eq_false_iff_not, spIn_iff]; simp [hb0]] at hi
      repeat' ((conv => whnf); first
        | (refine And.intro (fun hb => ?_) (fun hb => ?_) <;> first | (exact absurd hb (by first | assumption | decide)) | (rw [hb]) | skip)
        | (refine Exists.intro ?_ ?_; focus (and_intros <;> first | omega | exact rfl | assumption | (intro _ hh; cases hh; done) | exact all_size (by rfl) | (simp; done) | decide))
        | (intro hfact)
        | (refine Drawn.mk (by kernel_rfl) (fun hfact => ?_))
        | (refine CallWp.mk ⟨_, haw, ?_⟩; rintro _ _ ⟨rfl, rfl⟩)
        | (refine CallIs.mk ⟨_, _, hgr, ?_⟩)
        | (refine CallIs.mk ⟨_, _, hi, ?_⟩)
        | (refine CallIs.mk ⟨_, _, spec_srright _, ?_⟩)
        | (refine CallIs.mk ⟨_, _, hc, ?_⟩))
      all_goals (try (conv => whnf))
      all_goals exact Done.mk ⟨rfl, by kernel_rfl⟩ (by kernel_rfl)
end Go.Ab

