/- One text of the proof whose last text says what is proved. -/
import Derived.Test.YtoombangidlpjaaA20
set_option linter.unusedVariables false
set_option linter.unusedSimpArgs false
set_option maxRecDepth 100000
set_option maxHeartbeats 40000000
namespace Go.Ab
open Go.Proofs

theorem great_bounds {u : Str} {a c : List Sp} (h : greatA u a c = false) : a.length ≤ 20 ∧ c.length ≤ 20 ∧ u.length ≤ 1000 := by
  unfold greatA at h
  simp only [Bool.or_eq_false_iff, decide_eq_false_iff_not] at h
  omega
theorem law_mays (l : List Cmd) (u : Str) (a c : List Sp) (hl : l.length ≤ 9223372036854775807) (ha : a.length ≤ 9223372036854775807) (hc : c.length ≤ 9223372036854775807) :
    Fn Try.prog F_exchequerlaw16_AllowMays [.v (.list (l.map Cmd.toI)), .v (askI u a c)] (Is (.v (.bool true)) [.no, .no]) := by
  refine of_exchequerlaw16_AllowMays ?_ (by simp)
  have hB := spec_behind l hl
  have hf := behM_fit l
  obtain ⟨M, hM⟩ : ∃ M, M = behM l := ⟨_, rfl⟩
  rw [← hM] at hB hf
  clear hM
  obtain ⟨R, ok⟩ := M
  dsimp only at hB hf
  have hG := spec_greatA u a c ha hc
  cases ok
  · repeat' ((conv => whnf); first
      | (refine And.intro (fun hb => ?_) (fun hb => ?_) <;> first | (exact absurd hb (by first | assumption | decide)) | (with_reducible exact absurd hb Bool.false_ne_true) | (with_reducible exact absurd hb.symm Bool.false_ne_true) | (exfalso; first | (simp only [LENS] at hb <;> omega) | omega) | ((try rw [hb]); (try simp only [NRMS] at hb); (try subst hb)))
      | (refine Exists.intro ?_ ?_; focus (and_intros <;> first | omega | exact rfl | assumption | (intro _ hh; cases hh; done) | exact all_size (by rfl) | exact size_map (fun _ => rfl) | exact size_one rfl | exact take_size (fun _ => rfl) | exact dsize_one rfl | exact dsize_map (fun _ => rfl) | exact dsize_its (fun _ => rfl) | (simp only [LENS]; omega) | (simp; done) | decide))
      | (intro hfact)
      | ((with_reducible apply Drawn.by0); (focus kernel_rfl); intro hfact; (try simp only [List.mem_append, List.mem_cons, List.not_mem_nil, or_false, false_or, or_assoc, forall_eq_or_imp, forall_eq, false_implies, implies_true, forall_const, and_true, true_and] at hfact))
      | (refine CallWp.mk ⟨_, spec_awake, ?_⟩; rintro _ _ ⟨rfl, rfl⟩)
      | (refine CallWp.mk ⟨_, hB, ?_⟩; rintro _ _ ⟨rfl, rfl⟩)
      | (refine CallWp.mk ⟨_, hG, ?_⟩; rintro _ _ ⟨rfl, rfl⟩))
    all_goals (try (conv => whnf))
    all_goals exact Done.mk ⟨rfl, by kernel_rfl⟩ (by kernel_rfl)
  cases hg : greatA u a c
  case true =>
    rw [hg] at hG
    repeat' ((conv => whnf); first
      | (refine And.intro (fun hb => ?_) (fun hb => ?_) <;> first | (exact absurd hb (by first | assumption | decide)) | (with_reducible exact absurd hb Bool.false_ne_true) | (with_reducible exact absurd hb.symm Bool.false_ne_true) | (exfalso; first | (simp only [LENS] at hb <;> omega) | omega) | ((try rw [hb]); (try simp only [NRMS] at hb); (try subst hb)))
      | (refine Exists.intro ?_ ?_; focus (and_intros <;> first | omega | exact rfl | assumption | (intro _ hh; cases hh; done) | exact all_size (by rfl) | exact size_map (fun _ => rfl) | exact size_one rfl | exact take_size (fun _ => rfl) | exact dsize_one rfl | exact dsize_map (fun _ => rfl) | exact dsize_its (fun _ => rfl) | (simp only [LENS]; omega) | (simp; done) | decide))
      | (intro hfact)
      | ((with_reducible apply Drawn.by0); (focus kernel_rfl); intro hfact; (try simp only [List.mem_append, List.mem_cons, List.not_mem_nil, or_false, false_or, or_assoc, forall_eq_or_imp, forall_eq, false_implies, implies_true, forall_const, and_true, true_and] at hfact))
      | (refine CallWp.mk ⟨_, spec_awake, ?_⟩; rintro _ _ ⟨rfl, rfl⟩)
      | (refine CallWp.mk ⟨_, hB, ?_⟩; rintro _ _ ⟨rfl, rfl⟩)
      | (refine CallWp.mk ⟨_, hG, ?_⟩; rintro _ _ ⟨rfl, rfl⟩))
    all_goals (try (conv => whnf))
    all_goals exact Done.mk ⟨rfl, by kernel_rfl⟩ (by kernel_rfl)
  rw [hg] at hG
  obtain ⟨b1, b2, b3⟩ := great_bounds hg
  have s0 := spec_spans sortNil R hf u false
  have s1 := spec_spans sortNil R hf u true
  have a0 := spec_all R hf u false
  have a1 := spec_all R hf u true
  have l0 := allM_length hf u false
  have l1 := allM_length hf u true
  have u0 := spec_srunion (allM R u false) (by omega)
  have u1 := spec_srunion (allM R u true) (by omega)
  have e0 := spec_ssame_yes (rUnion_eq (allM R u false)).symm
  have e1 := spec_ssame_yes (rUnion_eq (allM R u true)).symm
  have m0 := spec_may sortNil R hf u a c (by omega) (by omega)
  have m1 := spec_rmay R hf u a c (by omega) (by omega)
  repeat' ((conv => whnf); first
    | (refine And.intro (fun hb => ?_) (fun hb => ?_) <;> first | (exact absurd hb (by first | assumption | decide)) | (with_reducible exact absurd hb Bool.false_ne_true) | (with_reducible exact absurd hb.symm Bool.false_ne_true) | (exfalso; first | (simp only [LENS] at hb <;> omega) | omega) | ((try rw [hb]); (try simp only [NRMS] at hb); (try subst hb)))
    | (refine Exists.intro ?_ ?_; focus (and_intros <;> first | omega | exact rfl | assumption | (intro _ hh; cases hh; done) | exact all_size (by rfl) | exact size_map (fun _ => rfl) | exact size_one rfl | exact take_size (fun _ => rfl) | exact dsize_one rfl | exact dsize_map (fun _ => rfl) | exact dsize_its (fun _ => rfl) | (simp only [LENS]; omega) | (simp; done) | decide))
    | (intro hfact)
    | ((with_reducible apply Drawn.by0); (focus kernel_rfl); intro hfact; (try simp only [List.mem_append, List.mem_cons, List.not_mem_nil, or_false, false_or, or_assoc, forall_eq_or_imp, forall_eq, false_implies, implies_true, forall_const, and_true, true_and] at hfact))
    | (refine CallWp.mk ⟨_, spec_awake, ?_⟩; rintro _ _ ⟨rfl, rfl⟩)
    | (refine CallWp.mk ⟨_, hB, ?_⟩; rintro _ _ ⟨rfl, rfl⟩)
    | (refine CallWp.mk ⟨_, hG, ?_⟩; rintro _ _ ⟨rfl, rfl⟩))
  all_goals (try (conv => whnf))
  have hm : [false, true].length ≤ maxLen := by simp [maxLen]
  have hAns : runL (foldStep (fun (_ : Unit) (_ : Bool) => ())) foldFin [false, true] () = () := rfl
  refine each [false, true] _ _ _ (fun k s => [(24, .v (.int .i64 k))]) (fun k s => True) () (by kernel_rfl) trivial hAns ?_ ?_ <;> clear hAns
  · rintro k ⟨⟩ e he hk _ hA
    have hwk := wrap_succ hk hm
    rcases k with _ | _ | k
    · cases he
      dsimp only
      repeat' ((conv => whnf); first
        | (refine And.intro (fun hb => ?_) (fun hb => ?_) <;> first | (exact absurd hb (by first | assumption | decide)) | (with_reducible exact absurd hb Bool.false_ne_true) | (with_reducible exact absurd hb.symm Bool.false_ne_true) | (exfalso; first | (simp only [LENS] at hb <;> omega) | omega) | ((try rw [hb]); (try simp only [NRMS] at hb); (try subst hb)))
        | (refine Exists.intro ?_ ?_; focus (and_intros <;> first | omega | exact rfl | assumption | (intro _ hh; cases hh; done) | exact all_size (by rfl) | exact size_map (fun _ => rfl) | exact size_one rfl | exact take_size (fun _ => rfl) | exact dsize_one rfl | exact dsize_map (fun _ => rfl) | exact dsize_its (fun _ => rfl) | (simp only [LENS]; omega) | (simp; done) | decide))
        | (intro hfact)
        | ((with_reducible apply Drawn.by0); (focus kernel_rfl); intro hfact; (try simp only [List.mem_append, List.mem_cons, List.not_mem_nil, or_false, false_or, or_assoc, forall_eq_or_imp, forall_eq, false_implies, implies_true, forall_const, and_true, true_and] at hfact))
        | (refine CallIs.mk ⟨_, _, s0, ?_⟩)
        | (refine CallIs.mk ⟨_, _, a0, ?_⟩)
        | (refine CallIs.mk ⟨_, _, u0, ?_⟩)
        | (refine CallIs.mk ⟨_, _, e0, ?_⟩))
      all_goals (try (conv => whnf))
      refine RoundE.by () ?_ trivial rfl
      rw [hwk]
      show norm _ _ = upd _ _
      kernel_rfl
    · cases he
      dsimp only
      repeat' ((conv => whnf); first
        | (refine And.intro (fun hb => ?_) (fun hb => ?_) <;> first | (exact absurd hb (by first | assumption | decide)) | (with_reducible exact absurd hb Bool.false_ne_true) | (with_reducible exact absurd hb.symm Bool.false_ne_true) | (exfalso; first | (simp only [LENS] at hb <;> omega) | omega) | ((try rw [hb]); (try simp only [NRMS] at hb); (try subst hb)))
        | (refine Exists.intro ?_ ?_; focus (and_intros <;> first | omega | exact rfl | assumption | (intro _ hh; cases hh; done) | exact all_size (by rfl) | exact size_map (fun _ => rfl) | exact size_one rfl | exact take_size (fun _ => rfl) | exact dsize_one rfl | exact dsize_map (fun _ => rfl) | exact dsize_its (fun _ => rfl) | (simp only [LENS]; omega) | (simp; done) | decide))
        | (intro hfact)
        | ((with_reducible apply Drawn.by0); (focus kernel_rfl); intro hfact; (try simp only [List.mem_append, List.mem_cons, List.not_mem_nil, or_false, false_or, or_assoc, forall_eq_or_imp, forall_eq, false_implies, implies_true, forall_const, and_true, true_and] at hfact))
        | (refine CallIs.mk ⟨_, _, s1, ?_⟩)
        | (refine CallIs.mk ⟨_, _, a1, ?_⟩)
        | (refine CallIs.mk ⟨_, _, u1, ?_⟩)
        | (refine CallIs.mk ⟨_, _, e1, ?_⟩))
      all_goals (try (conv => whnf))
      refine RoundE.by () ?_ trivial rfl
      rw [hwk]
      show norm _ _ = upd _ _
      kernel_rfl
    · exact absurd hk (by simp only [List.length_cons, List.length_nil]; omega)
  · rintro ⟨⟩ k rfl _ hA
    dsimp only
    repeat' ((conv => whnf); first
      | (refine And.intro (fun hb => ?_) (fun hb => ?_) <;> first | (exact absurd hb (by first | assumption | decide)) | (with_reducible exact absurd hb Bool.false_ne_true) | (with_reducible exact absurd hb.symm Bool.false_ne_true) | (exfalso; first | (simp only [LENS] at hb <;> omega) | omega) | ((try rw [hb]); (try simp only [NRMS] at hb); (try subst hb)))
      | (refine Exists.intro ?_ ?_; focus (and_intros <;> first | omega | exact rfl | assumption | (intro _ hh; cases hh; done) | exact all_size (by rfl) | exact size_map (fun _ => rfl) | exact size_one rfl | exact take_size (fun _ => rfl) | exact dsize_one rfl | exact dsize_map (fun _ => rfl) | exact dsize_its (fun _ => rfl) | (simp only [LENS]; omega) | (simp; done) | decide))
      | (intro hfact)
      | ((with_reducible apply Drawn.by0); (focus kernel_rfl); intro hfact; (try simp only [List.mem_append, List.mem_cons, List.not_mem_nil, or_false, false_or, or_assoc, forall_eq_or_imp, forall_eq, false_implies, implies_true, forall_const, and_true, true_and] at hfact))
      | (refine CallIs.mk ⟨_, _, m0, ?_⟩)
      | (refine CallIs.mk ⟨_, _, m1, ?_⟩))
    all_goals (try (conv => whnf))
    all_goals (refine Done.mk ⟨SV.bool_congr ?_, by kernel_rfl⟩ (by kernel_rfl))
    all_goals simp
end Go.Ab

