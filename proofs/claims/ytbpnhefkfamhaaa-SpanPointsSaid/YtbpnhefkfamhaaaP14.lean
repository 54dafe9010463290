/- One text of the proof whose last text says what is proved. -/
import Derived.Test.YtbpnhefkfamhaaaP13
set_option linter.unusedVariables false
set_option linter.unusedSimpArgs false
set_option maxRecDepth 100000
set_option maxHeartbeats 4000000
namespace Go.Ab
open Go.Proofs

def hasM (l : List Sp) (E : List Str) : List Bool := E.map fun e => decide (AnyH l e)
def rUnion (l : List Sp) : List Sp := madeM (endsM l) (hasM l (endsM l))
theorem spec_srunion (l : List Sp) (hl : l.length ≤ 1000) : Fn Try.prog F_exchequerref05_Union [.v (.list (sps l))] (Is (.v (.list (sps (rUnion l)))) [.no]) := by
  refine of_exchequerref05_Union ?_ (by simp)
  have hE := spec_sends l hl
  have hEl := endsM_length l
  unfold rUnion
  obtain ⟨E, hEe⟩ : ∃ E, E = endsM l := ⟨_, rfl⟩
  rw [← hEe] at hE hEl ⊢
  have hm : E.length ≤ maxLen := by simp only [maxLen]; omega
  have hmade := spec_made E (hasM l E) (by simp [hasM]) (by omega)
  repeat' ((conv => whnf); first
    | (refine And.intro (fun hb => ?_) (fun hb => ?_) <;> first | (exact absurd hb (by first | assumption | decide)) | (rw [hb]) | skip)
    | (refine Exists.intro ?_ ?_; focus (and_intros <;> first | omega | exact rfl | assumption | (intro _ hh; cases hh; done) | exact all_size (by rfl) | (simp; done) | decide))
    | (intro hfact)
    | (refine Drawn.mk (by kernel_rfl) (fun hfact => ?_))
    | (refine CallWp.mk ⟨_, hE, ?_⟩; rintro _ _ ⟨rfl, rfl⟩))
  all_goals (try (conv => whnf))
  refine LoopWq.by (X := Nat) (fun x => [(4, .vec 4 1 (bools (hasM l (E.take x)))), (5, .v (.int .i64 x))]) (fun x => x ≤ E.length) (fun x => E.length - x)
    0 (by rw [List.take_zero]; kernel_rfl) (Nat.zero_le _) ?_
  intro k h1
  by_cases hk : k < E.length
  case neg =>
    have hlt : ¬ decide ((k : Int) < ((strs E).length : Int)) = true := by simp; omega
    rw [show E.take k = E from List.take_of_length_le (by omega)]
    repeat' ((conv => whnf); first
      | (refine And.intro (fun hb => ?_) (fun hb => ?_) <;> first | (exact absurd hb (by first | assumption | decide)) | (rw [hb]) | skip)
      | (refine Exists.intro ?_ ?_; focus (and_intros <;> first | omega | exact rfl | assumption | (intro _ hh; cases hh; done) | exact all_size (by rfl) | (simp; done) | decide))
      | (intro hfact)
      | (refine Drawn.mk (by kernel_rfl) (fun hfact => ?_))
      | (refine CallWp.mk ⟨_, hmade, ?_⟩; rintro _ _ ⟨rfl, rfl⟩))
    all_goals (try (conv => whnf))
    exact Done.mk ⟨rfl, by kernel_rfl⟩ (by kernel_rfl)
  obtain ⟨e, he⟩ : ∃ e, E[k]? = some e := ⟨_, List.getElem?_eq_getElem hk⟩
  have hg : (strs E)[Int.toNat (k : Int)]? = some (.str e) := strs_get he
  have hlt : ¬ decide ((k : Int) < ((strs E).length : Int)) = false := by simp [hk]
  have hround : E.length - (k + 1) < E.length - k := by omega
  have hbl : (bools (hasM l (E.take k))).length = k := by simp [hasM]; omega
  have e1 : ((bools (hasM l (E.take k))).length + [I.bool (decide (AnyH l e))].length) * 1 ≤ 140737488355328 := by
    rw [hbl]
    show (k + 1) * 1 ≤ 140737488355328
    omega
  have e2 : (bools (hasM l (E.take k))).length + [I.bool (decide (AnyH l e))].length ≤ maxLen := by
    rw [hbl]
    show k + 1 ≤ 9223372036854775807
    omega
  have e3 : ∀ u ∈ [I.bool (decide (AnyH l e))], u.size = 1 := by simp [I.size]
  have hap : bools (hasM l (E.take k)) ++ [I.bool (decide (AnyH l e))] = bools (hasM l (E.take (k + 1))) := by
    rw [List.take_add_one, he]
    simp [hasM]
  repeat' ((conv => whnf); first
    | (refine And.intro (fun hb => ?_) (fun hb => ?_) <;> first | (exact absurd hb (by first | assumption | decide)) | (rw [hb]) | skip)
    | (refine Exists.intro ?_ ?_; focus (and_intros <;> first | omega | exact rfl | assumption | (intro _ hh; cases hh; done) | exact all_size (by rfl) | (simp; done) | decide))
    | (intro hfact)
    | (refine Drawn.mk (by kernel_rfl) (fun hfact => ?_))
    | ((try dsimp only); rw [hg])
    | (refine CallWp.mk ⟨_, spec_any _ _, ?_⟩; rintro _ _ ⟨rfl, rfl⟩))
  all_goals (try (conv => whnf))
  refine Round.by (k + 1) ?_ hk hround
  rw [wrap_succ hk hm, ← hap]
  show norm _ _ = upd _ _
  kernel_rfl

def RCov (l : List Sp) (s : Sp) : Prop := SpR s ∧ ∀ e ∈ endsM (l ++ [s]), SpH s e → AnyH l e
instance (l : List Sp) (s : Sp) : Decidable (RCov l s) := by unfold RCov; infer_instance
theorem spec_srcovers (l : List Sp) (s : Sp) (hl : l.length ≤ 900) : Fn Try.prog F_exchequerref05_Covers [.v (.list (sps l)), .v s.toI] (Is (.v (.bool (decide (RCov l s)))) [.no, .no]) := by
  refine of_exchequerref05_Covers ?_ (by simp)
  by_cases hr : SpR s
  case neg =>
    have n1 : ¬ (!decide (SpR s)) = false := by simp [hr]
    repeat' ((conv => whnf); first
      | (refine And.intro (fun hb => ?_) (fun hb => ?_) <;> first | (exact absurd hb (by first | assumption | decide)) | (rw [hb]) | skip)
      | (refine Exists.intro ?_ ?_; focus (and_intros <;> first | omega | exact rfl | assumption | (intro _ hh; cases hh; done) | exact all_size (by rfl) | (simp; done) | decide))
      | (intro hfact)
      | (refine Drawn.mk (by kernel_rfl) (fun hfact => ?_))
      | (refine CallWp.mk ⟨_, spec_srright _, ?_⟩; rintro _ _ ⟨rfl, rfl⟩))
    all_goals (try (conv => whnf))
    refine Done.mk ⟨SV.bool_congr ?_, by kernel_rfl⟩ (by kernel_rfl)
    symm
    simp [RCov, hr]
  have n1 : ¬ (!decide (SpR s)) = true := by simp [hr]
  have hap : [] ++ sps l ++ [s.toI] = sps (l ++ [s]) := by simp
  have b1 : (([] : List I).length + (sps l).length) * 32 ≤ 140737488355328 := by rw [List.length_map]; show (0 + l.length) * 32 ≤ _; omega
  have b2 : ([] : List I).length + (sps l).length ≤ maxLen := by rw [List.length_map]; show 0 + l.length ≤ 9223372036854775807; omega
  have b3 := sps_size l
  have hll : ([] ++ sps l).length = l.length := by simp
  have d1 : (([] ++ sps l).length + [s.toI].length) * 32 ≤ 140737488355328 := by rw [hll]; show (l.length + 1) * 32 ≤ _; omega
  have d2 : ([] ++ sps l).length + [s.toI].length ≤ maxLen := by rw [hll]; show l.length + 1 ≤ 9223372036854775807; omega
  have d3 : ∀ u ∈ [s.toI], u.size = 2 := sps_size [s]
  have hE := spec_sends (l ++ [s]) (by simp; omega)
  have hEl := endsM_length (l ++ [s])
  have hE' : Fn Try.prog F_exchequerref05_Ends [.v (.list ([] ++ sps l ++ [s.toI]))] (Is (.v (.list (strs (endsM (l ++ [s]))))) [.no]) := by rw [hap]; exact hE
  have hiff : RCov l s ↔ ∀ e ∈ endsM (l ++ [s]), SpH s e → AnyH l e := by unfold RCov; simp [hr]
  obtain ⟨E, hEe⟩ : ∃ E, E = endsM (l ++ [s]) := ⟨_, rfl⟩
  rw [← hEe] at hE' hEl hiff
  have hm : E.length ≤ maxLen := by
    have : (l ++ [s]).length = l.length + 1 := by simp
    rw [this] at hEl
    show E.length ≤ 9223372036854775807
    omega
  clear hE
  repeat' ((conv => whnf); first
    | (refine And.intro (fun hb => ?_) (fun hb => ?_) <;> first | (exact absurd hb (by first | assumption | decide)) | (rw [hb]) | skip)
    | (refine Exists.intro ?_ ?_; focus (and_intros <;> first | omega | exact rfl | assumption | (intro _ hh; cases hh; done) | exact all_size (by rfl) | (simp; done) | decide))
    | (intro hfact)
    | (refine Drawn.mk (by kernel_rfl) (fun hfact => ?_))
    | (refine CallWp.mk ⟨_, spec_srright _, ?_⟩; rintro _ _ ⟨rfl, rfl⟩)
    | (refine CallIs.mk ⟨_, _, hE', ?_⟩))
  all_goals (try (conv => whnf))
  refine LoopWq.by (X := Nat) (fun x => [(6, .v (.int .i64 x))]) (fun x => x ≤ E.length ∧ ∀ (j : Nat) (e : Str), j < x → E[j]? = some e → SpH s e → AnyH l e) (fun x => E.length - x)
    0 (by kernel_rfl) ⟨Nat.zero_le _, fun j e h => by omega⟩ ?_
  rintro k ⟨h1, h2⟩
  by_cases hk : k < E.length
  case neg =>
    have hlt : ¬ decide ((k : Int) < ((strs E).length : Int)) = true := by simp; omega
    repeat' ((conv => whnf); first
      | (refine And.intro (fun hb => ?_) (fun hb => ?_) <;> first | (exact absurd hb (by first | assumption | decide)) | (rw [hb]) | skip)
      | (refine Exists.intro ?_ ?_; focus (and_intros <;> first | omega | exact rfl | assumption | (intro _ hh; cases hh; done) | exact all_size (by rfl) | (simp; done) | decide))
      | (intro hfact)
      | (refine Drawn.mk (by kernel_rfl) (fun hfact => ?_)))
    all_goals (try (conv => whnf))
    refine Done.mk ⟨SV.bool_congr ?_, by kernel_rfl⟩ (by kernel_rfl)
    symm
    rw [decide_eq_true_eq, hiff]
    intro e he
    obtain ⟨j, hj, rfl⟩ := List.mem_iff_getElem.1 he
    exact h2 j _ (by omega) (List.getElem?_eq_getElem hj)
  obtain ⟨e, he⟩ : ∃ e, E[k]? = some e := ⟨_, List.getElem?_eq_getElem hk⟩
  have hg : (strs E)[Int.toNat (k : Int)]? = some (.str e) := strs_get he
  have hlt : ¬ decide ((k : Int) < ((strs E).length : Int)) = false := by simp [hk]
  have hround : E.length - (k + 1) < E.length - k := by omega
  have hnext : (SpH s e → AnyH l e) → ∀ (j : Nat) (x : Str), j < k + 1 → E[j]? = some x → SpH s x → AnyH l x := by
    intro h j x hj hx
    by_cases hjk : j = k
    · subst hjk
      rw [he] at hx
      cases hx
      exact h
    · exact h2 j x (by omega) hx
  by_cases hh : SpH s e
  · have n2 : ¬ decide (SpH s e) = false := by simp [hh]
    by_cases ha : AnyH l e
    · have n3 : ¬ (!decide (AnyH l e)) = true := by simp [ha]
      repeat' ((conv => whnf); first
        | (refine And.intro (fun hb => ?_) (fun hb => ?_) <;> first | (exact absurd hb (by first | assumption | decide)) | (rw [hb]) | skip)
        | (refine Exists.intro ?_ ?_; focus (and_intros <;> first | omega | exact rfl | assumption | (intro _ hh; cases hh; done) | exact all_size (by rfl) | (simp; done) | decide))
        | (intro hfact)
        | (refine Drawn.mk (by kernel_rfl) (fun hfact => ?_))
        | ((try dsimp only); rw [hg])
        | (refine CallIs.mk ⟨_, _, spec_srhas _ _, ?_⟩)
        | (refine CallIs.mk ⟨_, _, spec_any _ _, ?_⟩))
      all_goals (try (conv => whnf))
      refine Round.by (k + 1) ?_ ⟨hk, hnext fun _ => ha⟩ hround
      rw [wrap_succ hk hm]
      show norm _ _ = upd _ _
      kernel_rfl
    · have n3 : ¬ (!decide (AnyH l e)) = false := by simp [ha]
      repeat' ((conv => whnf); first
        | (refine And.intro (fun hb => ?_) (fun hb => ?_) <;> first | (exact absurd hb (by first | assumption | decide)) | (rw [hb]) | skip)
        | (refine Exists.intro ?_ ?_; focus (and_intros <;> first | omega | exact rfl | assumption | (intro _ hh; cases hh; done) | exact all_size (by rfl) | (simp; done) | decide))
        | (intro hfact)
        | (refine Drawn.mk (by kernel_rfl) (fun hfact => ?_))
        | ((try dsimp only); rw [hg])
        | (refine CallIs.mk ⟨_, _, spec_srhas _ _, ?_⟩)
        | (refine CallIs.mk ⟨_, _, spec_any _ _, ?_⟩))
      all_goals (try (conv => whnf))
      refine Done.mk ⟨SV.bool_congr ?_, by kernel_rfl⟩ (by kernel_rfl)
      symm
      rw [decide_eq_false_iff_not, hiff]
      intro h
      exact ha (h e (List.mem_of_getElem? he) hh)
  · have n2 : ¬ decide (SpH s e) = true := by simp [hh]
    repeat' ((conv => whnf); first
      | (refine And.intro (fun hb => ?_) (fun hb => ?_) <;> first | (exact absurd hb (by first | assumption | decide)) | (rw [hb]) | skip)
      | (refine Exists.intro ?_ ?_; focus (and_intros <;> first | omega | exact rfl | assumption | (intro _ hh; cases hh; done) | exact all_size (by rfl) | (simp; done) | decide))
      | (intro hfact)
      | (refine Drawn.mk (by kernel_rfl) (fun hfact => ?_))
      | ((try dsimp only); rw [hg])
      | (refine CallIs.mk ⟨_, _, spec_srhas _ _, ?_⟩)
      | (refine CallIs.mk ⟨_, _, spec_any _ _, ?_⟩))
    all_goals (try (conv => whnf))
    refine Round.by (k + 1) ?_ ⟨hk, hnext fun h => absurd h hh⟩ hround
    rw [wrap_succ hk hm]
    show norm _ _ = upd _ _
    kernel_rfl
end Go.Ab

