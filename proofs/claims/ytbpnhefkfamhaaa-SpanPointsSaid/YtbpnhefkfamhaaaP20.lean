/- One text of the proof whose last text says what is proved. -/
import Derived.Test.YtbpnhefkfamhaaaP19
set_option linter.unusedVariables false
set_option linter.unusedSimpArgs false
set_option maxRecDepth 100000
set_option maxHeartbeats 4000000
namespace Go.Ab
open Go.Proofs

theorem spec_srminus (l : List Sp) (s : Sp) (hl : l.length ≤ 900) : Fn Try.prog F_exchequerref05_Minus [.v (.list (sps l)), .v s.toI] (Is (.v (.list (sps (rMinus l s)))) [.no, .no]) := by
  refine of_exchequerref05_Minus ?_ (by simp)
  have hap : [] ++ sps l ++ [s.toI] = sps (l ++ [s]) := by simp
  have b1 : (([] : List I).length + (sps l).length) * 32 ≤ 140737488355328 := by rw [List.length_map]; show (0 + l.length) * 32 ≤ _; omega
  have b2 : ([] : List I).length + (sps l).length ≤ maxLen := by rw [List.length_map]; show 0 + l.length ≤ 9223372036854775807; omega
  have b3 := sps_size l
  have hll : ([] ++ sps l).length = l.length := by simp
  have d1 : (([] ++ sps l).length + [s.toI].length) * 32 ≤ 140737488355328 := by rw [hll]; show (l.length + 1) * 32 ≤ _; omega
  have d2 : ([] ++ sps l).length + [s.toI].length ≤ maxLen := by rw [hll]; show l.length + 1 ≤ 9223372036854775807; omega
  have d3 : ∀ u ∈ [s.toI], u.size = 2 := sps_size [s]
  have hE := spec_sends (l ++ [s]) (by simp; omega)
  rw [← hap] at hE
  have hEl : (endsM (l ++ [s])).length ≤ 2000 := by
    have := endsM_length (l ++ [s])
    simp at this
    omega
  unfold rMinus
  generalize endsM (l ++ [s]) = E at hE hEl
  have hm : E.length ≤ maxLen := by simp only [maxLen]; omega
  have hmade := spec_made E (E.map (rMinP l s)) (by simp) (by omega)
  repeat' ((conv => whnf); first
    | (refine And.intro (fun hb => ?_) (fun hb => ?_) <;> first | (exact absurd hb (by first | assumption | decide)) | (rw [hb]) | skip)
    | (refine Exists.intro ?_ ?_; focus (and_intros <;> first | omega | exact rfl | assumption | (intro _ hh; cases hh; done) | exact all_size (by rfl) | (simp; done) | decide))
    | (intro hfact)
    | (refine Drawn.mk (by kernel_rfl) (fun hfact => ?_))
    | (refine CallWp.mk ⟨_, hE, ?_⟩; rintro _ _ ⟨rfl, rfl⟩)
    | (refine CallIs.mk ⟨_, _, hE, ?_⟩))
  all_goals (try (conv => whnf))
  refine LoopWq.by (X := Nat) (fun x => [(6, .vec 4 1 (bools ((E.take x).map (rMinP l s)))), (7, .v (.int .i64 x))]) (fun x => x ≤ E.length) (fun x => E.length - x)
    0 (by rw [List.take_zero]; kernel_rfl) (Nat.zero_le _) ?_
  intro k h1
  by_cases hk : k < E.length
  case neg =>
    have hlt : ¬ decide ((k : Int) < ((strs E).length : Int)) = true := by simp; omega
    rw [show E.take k = E from List.take_of_length_le (by omega)]
    repeat' ((conv => whnf); first
      | (refine And.intro (fun hb => ?_) (fun hb => ?_) <;> first | (exact absurd hb (by first | assumption | decide)) | (rw [hb]) | skip)
      | (refine Exists.intro ?_ ?_; focus (and_intros <;> first | omega | exact rfl | assumption | (intro _ hh; cases hh; done) | exact all_size (by rfl) | (simp; done) | decide))
      | (intro hfact)
      | (refine Drawn.mk (by kernel_rfl) (fun hfact => ?_))
      | (refine CallWp.mk ⟨_, hmade, ?_⟩; rintro _ _ ⟨rfl, rfl⟩))
    all_goals (try (conv => whnf))
    exact Done.mk ⟨rfl, by kernel_rfl⟩ (by kernel_rfl)
  obtain ⟨e, he⟩ : ∃ e, E[k]? = some e := ⟨_, List.getElem?_eq_getElem hk⟩
  have hg : (strs E)[Int.toNat (k : Int)]? = some (.str e) := strs_get he
  have hkl : Int.toNat (k : Int) < (strs E).length := by simp [hk]
  have hlt : ¬ decide ((k : Int) < ((strs E).length : Int)) = false := by simp [hk]
  have hround : E.length - (k + 1) < E.length - k := by omega
  have hbl : (bools ((E.take k).map (rMinP l s))).length = k := by simp; omega
  have hap : ∀ v, rMinP l s e = v → bools ((E.take (k + 1)).map (rMinP l s)) = bools ((E.take k).map (rMinP l s)) ++ [I.bool v] := by
    rintro v rfl
    rw [List.take_add_one, he]
    simp
  by_cases c1 : AnyH l e
  case neg =>
    have g1 : ¬ decide (AnyH l e) = true := by simp [c1]
    have hap := hap false (by simp [rMinP, c1])
    repeat' ((conv => whnf); first
      | (refine And.intro (fun hb => ?_) (fun hb => ?_) <;> first | (exact absurd hb (by first | assumption | decide)) | (rw [hb]) | skip)
      | (refine Exists.intro ?_ ?_; focus (and_intros <;> first | omega | exact rfl | assumption | (intro _ hh; cases hh; done) | exact all_size (by rfl) | (simp; done) | decide))
      | (intro hfact)
      | (refine Drawn.mk (by kernel_rfl) (fun hfact => ?_))
      | ((try dsimp only); rw [hg])
      | (refine CallIs.mk ⟨_, _, spec_any _ _, ?_⟩)
      | (refine Exists.intro ?_ ?_; focus (and_intros <;> first | (simp only [hbl, List.length_set, List.length_replicate, maxLen]; omega) | exact all_size (by rfl) | decide)))
    all_goals (try (conv => whnf))
    refine Round.by (k + 1) ?_ hk hround
    rw [wrap_succ hk hm, hap]
    show norm _ _ = upd _ _
    kernel_rfl
  have g1 : ¬ decide (AnyH l e) = false := by simp [c1]
  by_cases c2 : SpR s
  case neg =>
    have g2 : ¬ decide (SpR s) = true := by simp [c2]
    have hap := hap true (by simp [rMinP, c1, c2])
    repeat' ((conv => whnf); first
      | (refine And.intro (fun hb => ?_) (fun hb => ?_) <;> first | (exact absurd hb (by first | assumption | decide)) | (rw [hb]) | skip)
      | (refine Exists.intro ?_ ?_; focus (and_intros <;> first | omega | exact rfl | assumption | (intro _ hh; cases hh; done) | exact all_size (by rfl) | (simp; done) | decide))
      | (intro hfact)
      | (refine Drawn.mk (by kernel_rfl) (fun hfact => ?_))
      | ((try dsimp only); rw [hg])
      | (refine CallIs.mk ⟨_, _, spec_any _ _, ?_⟩)
      | (refine CallIs.mk ⟨_, _, spec_srright _, ?_⟩)
      | (refine CallIs.mk ⟨_, _, spec_srhas _ _, ?_⟩)
      | (refine Exists.intro ?_ ?_; focus (and_intros <;> first | (simp only [hbl, List.length_set, List.length_replicate, maxLen]; omega) | exact all_size (by rfl) | decide)))
    all_goals (try (conv => whnf))
    refine Round.by (k + 1) ?_ hk hround
    rw [wrap_succ hk hm, hap]
    show norm _ _ = upd _ _
    kernel_rfl
  have g2 : ¬ decide (SpR s) = false := by simp [c2]
  have hap := hap (!decide (SpH s e)) (by simp [rMinP, c1, c2])
  repeat' ((conv => whnf); first
    | (refine And.intro (fun hb => ?_) (fun hb => ?_) <;> first | (exact absurd hb (by first | assumption | decide)) | (rw [hb]) | skip)
    | (refine Exists.intro ?_ ?_; focus (and_intros <;> first | omega | exact rfl | assumption | (intro _ hh; cases hh; done) | exact all_size (by rfl) | (simp; done) | decide))
    | (intro hfact)
    | (refine Drawn.mk (by kernel_rfl) (fun hfact => ?_))
    | ((try dsimp only); rw [hg])
    | (refine CallIs.mk ⟨_, _, spec_any _ _, ?_⟩)
    | (refine CallIs.mk ⟨_, _, spec_srright _, ?_⟩)
    | (refine CallIs.mk ⟨_, _, spec_srhas _ _, ?_⟩)
    | (refine Exists.intro ?_ ?_; focus (and_intros <;> first | (simp only [hbl, List.length_set, List.length_replicate, maxLen]; omega) | exact all_size (by rfl) | decide)))
  all_goals (try (conv => whnf))
  refine Round.by (k + 1) ?_ hk hround
  rw [wrap_succ hk hm, hap]
  show norm _ _ = upd _ _
  kernel_rfl
theorem minus_length (l : List Sp) (s : Sp) : (minus l s).length ≤ 2 * l.length := by
  have hul := uni_length l
  unfold minus
  split
  · rw [List.length_flatMap]
    have : ∀ u : List Sp, (u.map fun x => (cutOut s x).length).sum ≤ 2 * u.length := by
      intro u
      induction u with
      | nil => simp
      | cons x r ih =>
        have h1 : (cutOut s x).length ≤ 2 := by
          have hA : (cutA s x).length ≤ 1 := by unfold cutA; split <;> simp
          have hB : (cutB s x).length ≤ 1 := by unfold cutB; split <;> simp
          unfold cutOut
          rw [List.length_append]
          omega
        simp only [List.map_cons, List.sum_cons, List.length_cons]
        omega
    have := this (uni l)
    omega
  · omega
theorem law_sminus (l : List Sp) (s : Sp) (hl0 : l.length * 32 ≤ 140737488351232) : Fn Try.prog F_exchequerlaw05_SpanMinus [.v (.list (sps l)), .v s.toI] (Is (.v (.bool true)) [.no, .no]) := by
  refine of_exchequerlaw05_SpanMinus ?_ (by simp)
  have haw := spec_awakeS sortNil
  have hgr := spec_greatS (s :: l) []
  have b1 : ([s.toI].length + (sps l).length) * 32 ≤ 140737488355328 := by rw [List.length_map]; show (1 + l.length) * 32 ≤ _; omega
  have b2 : [s.toI].length + (sps l).length ≤ maxLen := by rw [List.length_map]; show 1 + l.length ≤ 9223372036854775807; omega
  have b3 := sps_size l
  by_cases hg : (greatS 0 (s :: l) || greatT []) = true
  · rw [hg] at hgr
    repeat' ((conv => whnf); first
      | (refine And.intro (fun hb => ?_) (fun hb => ?_) <;> first | (exact absurd hb (by first | assumption | decide)) | (rw [hb]) | skip)
      | (refine Exists.intro ?_ ?_; focus (and_intros <;> first | omega | exact rfl | assumption | (intro _ hh; cases hh; done) | exact all_size (by rfl) | (simp; done) | decide))
      | (intro hfact)
      | (refine Drawn.mk (by kernel_rfl) (fun hfact => ?_))
      | (refine CallWp.mk ⟨_, haw, ?_⟩; rintro _ _ ⟨rfl, rfl⟩)
      | (refine CallWp.mk ⟨_, hgr, ?_⟩; rintro _ _ ⟨rfl, rfl⟩))
    all_goals (try (conv => whnf))
    exact Done.mk ⟨rfl, by kernel_rfl⟩ (by kernel_rfl)
  · have hg' : (greatS 0 (s :: l) || greatT []) = false := by simpa using hg
    rw [hg'] at hgr
    have hl := (greatS_no (Bool.or_eq_false_iff.1 hg').1).1
    rw [List.length_cons] at hl
    have hml := minus_length l s
    have hm := spec_minus l s (by omega)
    have hr := spec_srminus l s (by omega)
    rw [rMinus_eq] at hr
    have hm2 := spec_minus (minus l s) s (by omega)
    rw [minus_minus] at hm2
    have hc := spec_covers (minus l s) s (by omega)
    rw [decide_eq_false (minus_gone l s)] at hc
    have hs := spec_ssame_yes (rfl : minus l s = minus l s)
    repeat' ((conv => whnf); first
      | (refine And.intro (fun hb => ?_) (fun hb => ?_) <;> first | (exact absurd hb (by first | assumption | decide)) | (rw [hb]) | skip)
      | (refine Exists.intro ?_ ?_; focus (and_intros <;> first | omega | exact rfl | assumption | (intro _ hh; cases hh; done) | exact all_size (by rfl) | (simp; done) | decide))
      | (intro hfact)
      | (refine Drawn.mk (by kernel_rfl) (fun hfact => ?_))
      | (refine CallWp.mk ⟨_, haw, ?_⟩; rintro _ _ ⟨rfl, rfl⟩)
      | (refine CallWp.mk ⟨_, hgr, ?_⟩; rintro _ _ ⟨rfl, rfl⟩)
      | (refine CallWp.mk ⟨_, hm, ?_⟩; rintro _ _ ⟨rfl, rfl⟩)
      | (refine CallWp.mk ⟨_, hr, ?_⟩; rintro _ _ ⟨rfl, rfl⟩)
      | (refine CallWp.mk ⟨_, hs, ?_⟩; rintro _ _ ⟨rfl, rfl⟩)
      | (refine CallWp.mk ⟨_, hc, ?_⟩; rintro _ _ ⟨rfl, rfl⟩)
      | (refine CallWp.mk ⟨_, hm2, ?_⟩; rintro _ _ ⟨rfl, rfl⟩))
    all_goals (try (conv => whnf))
    exact Done.mk ⟨rfl, by kernel_rfl⟩ (by kernel_rfl)
end Go.Ab

