/- One text of the proof whose last text says what is proved. -/
import Derived.Test.YtbpnhefkfamhaaaP18
set_option linter.unusedVariables false
set_option linter.unusedSimpArgs false
set_option maxRecDepth 100000
set_option maxHeartbeats 4000000
namespace Go.Ab
open Go.Proofs

theorem sps_app0 (o : List Sp) : sps (o ++ ([] ++ [])) = sps o := by simp
theorem sps_app1 (o : List Sp) (a : Sp) : sps (o ++ ([a] ++ [])) = sps o ++ [a.toI] := by simp
theorem sps_app2 (o : List Sp) (b : Sp) : sps (o ++ ([] ++ [b])) = sps o ++ [b.toI] := by simp
theorem sps_app3 (o : List Sp) (a b : Sp) : sps (o ++ ([a] ++ [b])) = sps o ++ [a.toI] ++ [b.toI] := by simp
theorem spec_minus (l : List Sp) (s : Sp) (hl : l.length ≤ 1000) : Fn Try.prog F_span_Minus [.v (.list (sps l)), .v s.toI] (Is (.v (.list (sps (minus l s)))) [.no, .no]) := by
  refine of_span_Minus ?_ (by simp)
  have hu := spec_union sortNil l hl
  have hul : (uni l).length ≤ 1000 := Nat.le_trans (uni_length l) hl
  by_cases hr : SpR s
  case neg =>
    have n1 : ¬ (!decide (SpR s)) = false := by simp [hr]
    rw [show minus l s = uni l from if_neg hr]
    repeat' ((conv => whnf); first
      | (refine And.intro (fun hb => ?_) (fun hb => ?_) <;> first | (exact absurd hb (by first | assumption | decide)) | (rw [hb]) | skip)
      | (refine Exists.intro ?_ ?_; focus (and_intros <;> first | omega | exact rfl | assumption | (intro _ hh; cases hh; done) | exact all_size (by rfl) | (simp; done) | decide))
      | (intro hfact)
      | (refine Drawn.mk (by kernel_rfl) (fun hfact => ?_))
      | (refine CallWp.mk ⟨_, hu, ?_⟩; rintro _ _ ⟨rfl, rfl⟩)
      | (refine CallWp.mk ⟨_, spec_sright _, ?_⟩; rintro _ _ ⟨rfl, rfl⟩))
    all_goals (try (conv => whnf))
    exact Done.mk ⟨rfl, by kernel_rfl⟩ (by kernel_rfl)
  have n1 : ¬ (!decide (SpR s)) = true := by simp [hr]
  have hfin : minus l s = (uni l).flatMap (cutOut s) := if_pos hr
  generalize uni l = u at hu hul hfin
  rw [hfin]
  clear hfin
  have hmax : u.length ≤ maxLen := by simp only [maxLen]; omega
  repeat' ((conv => whnf); first
    | (refine And.intro (fun hb => ?_) (fun hb => ?_) <;> first | (exact absurd hb (by first | assumption | decide)) | (rw [hb]) | skip)
    | (refine Exists.intro ?_ ?_; focus (and_intros <;> first | omega | exact rfl | assumption | (intro _ hh; cases hh; done) | exact all_size (by rfl) | (simp; done) | decide))
    | (intro hfact)
    | (refine Drawn.mk (by kernel_rfl) (fun hfact => ?_))
    | (refine CallWp.mk ⟨_, hu, ?_⟩; rintro _ _ ⟨rfl, rfl⟩)
    | (refine CallWp.mk ⟨_, spec_sright _, ?_⟩; rintro _ _ ⟨rfl, rfl⟩))
  all_goals (try (conv => whnf))
  refine LoopWq.by (X := Nat × List Sp) (fun x => [(6, .vec 29 2 (sps x.2)), (18, .v (.int .i64 x.1))]) (fun x => x.1 ≤ u.length ∧ x.2 = (u.take x.1).flatMap (cutOut s) ∧ x.2.length ≤ 2 * x.1) (fun x => u.length - x.1)
    (0, []) (by kernel_rfl) ⟨Nat.zero_le _, rfl, Nat.le_refl _⟩ ?_
  rintro ⟨k, out⟩ ⟨h1, h2, h3⟩
  dsimp only at h1 h2 h3 ⊢
  by_cases hk : k < u.length
  case neg =>
    have hlt : ¬ decide ((k : Int) < ((sps u).length : Int)) = true := by simp; omega
    rw [show u.take k = u from List.take_of_length_le (by omega)] at h2
    subst h2
    repeat' ((conv => whnf); first
      | (refine And.intro (fun hb => ?_) (fun hb => ?_) <;> first | (exact absurd hb (by first | assumption | decide)) | (rw [hb]) | skip)
      | (refine Exists.intro ?_ ?_; focus (and_intros <;> first | omega | exact rfl | assumption | (intro _ hh; cases hh; done) | exact all_size (by rfl) | (simp; done) | decide))
      | (intro hfact)
      | (refine Drawn.mk (by kernel_rfl) (fun hfact => ?_)))
    all_goals (try (conv => whnf))
    exact Done.mk ⟨rfl, by kernel_rfl⟩ (by kernel_rfl)
  obtain ⟨e, he⟩ : ∃ e, u[k]? = some e := ⟨_, List.getElem?_eq_getElem hk⟩
  have hlt : ¬ decide ((k : Int) < ((sps u).length : Int)) = false := by simp [hk]
  have hg : (sps u)[Int.toNat (k : Int)]? = some e.toI := sps_get he
  have hkl : Int.toNat (k : Int) < (sps u).length := by simp [hk]
  have hround : u.length - (k + 1) < u.length - k := by omega
  have hsucc : (u.take (k + 1)).flatMap (cutOut s) = out ++ (cutA s e ++ cutB s e) := by
    rw [List.take_add_one, he, List.flatMap_append, ← h2]
    simp [cutOut]
  have hA : (¬ Op.bytesLess e.f s.f = true ∧ cutA s e = []) ∨ (¬ Op.bytesLess e.f s.f = false ∧ ¬ decide (0 < endsI e.t s.f) = false ∧ cutA s e = [⟨e.f, s.f⟩]) ∨ (¬ Op.bytesLess e.f s.f = false ∧ ¬ decide (0 < endsI e.t s.f) = true ∧ cutA s e = [⟨e.f, e.t⟩]) := by
    simp only [endsI_gt, bless_eq]
    unfold cutA
    by_cases g1 : e.f < s.f <;> by_cases g2 : EndGt e.t s.f <;> simp [g1, g2]
  have hB : (¬ (!decide (s.t = [])) = true ∧ cutB s e = []) ∨ (¬ (!decide (s.t = [])) = false ∧ ¬ decide (0 < endsI e.t s.t) = true ∧ cutB s e = []) ∨ (¬ (!decide (s.t = [])) = false ∧ ¬ decide (0 < endsI e.t s.t) = false ∧ ¬ (!Op.bytesLess e.f s.t) = false ∧ cutB s e = [⟨e.f, e.t⟩]) ∨
      (¬ (!decide (s.t = [])) = false ∧ ¬ decide (0 < endsI e.t s.t) = false ∧ ¬ (!Op.bytesLess e.f s.t) = true ∧ cutB s e = [⟨s.t, e.t⟩]) := by
    simp only [endsI_gt]
    unfold cutB maxS
    by_cases g1 : s.t = [] <;> by_cases g2 : EndGt e.t s.t <;> by_cases g3 : (!Op.bytesLess e.f s.t) = true <;> simp [g1, g2, g3] at *
  rcases hA with ⟨a1, hA⟩ | ⟨a1, a2, hA⟩ | ⟨a1, a2, hA⟩ <;> rcases hB with ⟨b1, hB⟩ | ⟨b1, b2, hB⟩ | ⟨b1, b2, b3, hB⟩ | ⟨b1, b2, b3, hB⟩
  all_goals rw [hA, hB] at hsucc
  all_goals (
    repeat' ((conv => whnf); first
      | (refine And.intro (fun hb => ?_) (fun hb => ?_) <;> first | (exact absurd hb (by first | assumption | decide)) | (rw [hb]) | skip)
      | (refine Exists.intro ?_ ?_; focus (and_intros <;> first | omega | exact rfl | assumption | (intro _ hh; cases hh; done) | exact all_size (by rfl) | (simp; done) | decide))
      | (intro hfact)
      | (refine Drawn.mk (by kernel_rfl) (fun hfact => ?_))
      | ((try dsimp only); rw [hg])
      | (refine CallWp.mk ⟨_, spec_ends _ _, ?_⟩; rintro _ _ ⟨rfl, rfl⟩)
      | (refine CallIs.mk ⟨_, _, spec_ends _ _, ?_⟩)
      | (refine Exists.intro ?_ ?_; focus (and_intros <;> first | (simp only [List.length_append, List.length_map, List.length_set, List.length_replicate, maxLen]; omega) | exact all_size (by rfl) | decide)))
    all_goals (try (conv => whnf))
    refine Round.by (k + 1, _) ?_ ⟨hk, hsucc.symm, by simp; omega⟩ hround
    dsimp only
    rw [wrap_succ hk hmax]
    first | rw [sps_app0] | rw [sps_app1] | rw [sps_app2] | rw [sps_app3]
    show norm _ _ = upd _ _
    kernel_rfl)
end Go.Ab

