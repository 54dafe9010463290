/- One text of the proof whose last text says what is proved. -/
import Derived.Test.YtoombangidlpjaaA15
import Derived.Test.YtoombangidlpjaaR20
set_option linter.unusedVariables false
set_option linter.unusedSimpArgs false
set_option maxRecDepth 100000
set_option maxHeartbeats 40000000
namespace Go.Ab
open Go.Proofs

def allStep {α : Type} (p : α → Bool) (_ : Unit) (e : α) : Unit ⊕ Bool := if p e then .inl () else .inr false
theorem all_run {α : Type} (p : α → Bool) (b : Bool) : ∀ (l : List α) (u : Unit), runL (allStep p) (fun _ => b) l u = (l.all p && b)
  | [], _ => rfl
  | a :: r, u => by
    rw [runL_cons, List.all_cons]
    by_cases h : p a = true
    · simp [allStep, h, aft, all_run p b r]
    · simp [allStep, h, aft]
def mayM (r : Roll) (u : Str) (reads writes : List Sp) : Bool :=
  reads.all (fun s => decide (RCov (allM r u false) s)) && writes.all (fun s => decide (RCov (allM r u true) s))
theorem spec_rmay (r : Roll) (hf : r.Fit) (u : Str) (a c : List Sp) (ha : a.length ≤ 1000) (hc : c.length ≤ 1000) : Fn Try.prog F_exchequerref16_May [.v r.toI, .v (.str u), .v (.list (sps a)), .v (.list (sps c))] (Is (.v (.bool (mayM r u a c))) [.no, .no, .no, .no]) := by
  refine of_exchequerref16_May ?_ (by simp)
  have hm : a.length ≤ maxLen := by simp only [maxLen]; omega
  have a0 := spec_all r hf u false
  have a1 := spec_all r hf u true
  have l0 := allM_length hf u false
  have l1 := allM_length hf u true
  have hAns : runL (allStep fun s => decide (RCov (allM r u false) s)) (fun _ => c.all (fun s => decide (RCov (allM r u true) s))) a () = mayM r u a c := all_run _ _ _ _
  repeat' ((conv => whnf); first
    | (refine And.intro (fun hb => ?_) (fun hb => ?_) <;> first | (exact absurd hb (by first | assumption | decide)) | (with_reducible exact absurd hb Bool.false_ne_true) | (with_reducible exact absurd hb.symm Bool.false_ne_true) | (exfalso; first | (simp only [LENS] at hb <;> omega) | omega) | ((try rw [hb]); (try simp only [NRMS] at hb); (try subst hb)))
    | (refine Exists.intro ?_ ?_; focus (and_intros <;> first | omega | exact rfl | assumption | (intro _ hh; cases hh; done) | exact all_size (by rfl) | exact size_map (fun _ => rfl) | exact size_one rfl | exact take_size (fun _ => rfl) | exact dsize_one rfl | exact dsize_map (fun _ => rfl) | exact dsize_its (fun _ => rfl) | (simp only [LENS]; omega) | (simp; done) | decide))
    | (intro hfact)
    | ((with_reducible apply Drawn.by0); (focus kernel_rfl); intro hfact; (try simp only [List.mem_append, List.mem_cons, List.not_mem_nil, or_false, false_or, or_assoc, forall_eq_or_imp, forall_eq, false_implies, implies_true, forall_const, and_true, true_and] at hfact)))
  all_goals (try (conv => whnf))
  refine each (a) _ _ _ (fun k s => [(9, .v (.int .i64 k))]) (fun k s => True) () (by kernel_rfl) (by simp) hAns ?_ ?_ <;> clear hAns
  · rintro k ⟨⟩ e he hk hi hA
    dsimp only at hi hA ⊢
    repeat' ((conv => whnf); first
      | (refine And.intro (fun hb => ?_) (fun hb => ?_) <;> first | (exact absurd hb (by first | assumption | decide)) | (with_reducible exact absurd hb Bool.false_ne_true) | (with_reducible exact absurd hb.symm Bool.false_ne_true) | (exfalso; first | (simp only [LENS] at hb <;> omega) | omega) | ((try rw [hb]); (try simp only [NRMS] at hb); (try subst hb)))
      | (refine Exists.intro ?_ ?_; focus (and_intros <;> first | omega | exact rfl | assumption | (intro _ hh; cases hh; done) | exact all_size (by rfl) | exact size_map (fun _ => rfl) | exact size_one rfl | exact take_size (fun _ => rfl) | exact dsize_one rfl | exact dsize_map (fun _ => rfl) | exact dsize_its (fun _ => rfl) | (simp only [LENS]; omega) | (simp; done) | decide))
      | (intro hfact)
      | ((with_reducible apply Drawn.by0); (focus kernel_rfl); intro hfact; (try simp only [List.mem_append, List.mem_cons, List.not_mem_nil, or_false, false_or, or_assoc, forall_eq_or_imp, forall_eq, false_implies, implies_true, forall_const, and_true, true_and] at hfact))
      | ((try dsimp only); first | rw [map_get he] | rw [map_getD he] | rw [map_getN he])
      | (refine CallIs.mk ⟨_, _, a0, ?_⟩)
      | (refine CallIs.mk ⟨_, _, spec_srcovers _ _ (by omega), ?_⟩))
    all_goals (try (conv => whnf))
    all_goals first
      | (simp [-List.append_assoc, allStep, *] at hA
         first
         | (refine RoundE.aft hA ?_ ?_
            · (try dsimp only); (try rw [wrap_succ hk hm]); (try simp only [List.map_append, List.map_cons, List.map_nil])
              show norm _ _ = upd _ _
              kernel_rfl
            · first | trivial | omega | ((try dsimp only); simp only [LENS]; omega) | ((try dsimp only); (try simp at *); omega))
         | (refine Done.mk ⟨?_, by kernel_rfl⟩ (by kernel_rfl)
            have hA' := hA
            first | (rw [← hA']; first | rfl | kernel_rfl | (simp only [List.map_append, List.map_cons, List.map_nil]; first | rfl | kernel_rfl)) | (rw [← aft_inr hA']; first | rfl | kernel_rfl | (simp only [List.map_append, List.map_cons, List.map_nil]; first | rfl | kernel_rfl)) | (simp at hA' ⊢; simp [*]; done))
        )
  · rintro ⟨⟩ k rfl hi hA
    dsimp only at hi hA ⊢
    repeat' ((conv => whnf); first
      | (refine And.intro (fun hb => ?_) (fun hb => ?_) <;> first | (exact absurd hb (by first | assumption | decide)) | (with_reducible exact absurd hb Bool.false_ne_true) | (with_reducible exact absurd hb.symm Bool.false_ne_true) | (exfalso; first | (simp only [LENS] at hb <;> omega) | omega) | ((try rw [hb]); (try simp only [NRMS] at hb); (try subst hb)))
      | (refine Exists.intro ?_ ?_; focus (and_intros <;> first | omega | exact rfl | assumption | (intro _ hh; cases hh; done) | exact all_size (by rfl) | exact size_map (fun _ => rfl) | exact size_one rfl | exact take_size (fun _ => rfl) | exact dsize_one rfl | exact dsize_map (fun _ => rfl) | exact dsize_its (fun _ => rfl) | (simp only [LENS]; omega) | (simp; done) | decide))
      | (intro hfact)
      | ((with_reducible apply Drawn.by0); (focus kernel_rfl); intro hfact; (try simp only [List.mem_append, List.mem_cons, List.not_mem_nil, or_false, false_or, or_assoc, forall_eq_or_imp, forall_eq, false_implies, implies_true, forall_const, and_true, true_and] at hfact))
      | (refine CallIs.mk ⟨_, _, a0, ?_⟩)
      | (refine CallIs.mk ⟨_, _, spec_srcovers _ _ (by omega), ?_⟩))
    all_goals (try (conv => whnf))
    generalize mayM r u a c = M at hA ⊢
    have hAns : runL (allStep fun s => decide (RCov (allM r u true) s)) (fun _ => true) c () = M := by rw [all_run, Bool.and_true]; exact hA
    clear hA hm
    have hm : c.length ≤ maxLen := by simp only [maxLen]; omega
    refine each (c) _ _ _ (fun k s => [(10, .v (.int .i64 k))]) (fun k s => True) () (by kernel_rfl) (by simp) hAns ?_ ?_ <;> clear hAns
    · rintro k ⟨⟩ e he hk hi hA
      dsimp only at hi hA ⊢
      repeat' ((conv => whnf); first
        | (refine And.intro (fun hb => ?_) (fun hb => ?_) <;> first | (exact absurd hb (by first | assumption | decide)) | (with_reducible exact absurd hb Bool.false_ne_true) | (with_reducible exact absurd hb.symm Bool.false_ne_true) | (exfalso; first | (simp only [LENS] at hb <;> omega) | omega) | ((try rw [hb]); (try simp only [NRMS] at hb); (try subst hb)))
        | (refine Exists.intro ?_ ?_; focus (and_intros <;> first | omega | exact rfl | assumption | (intro _ hh; cases hh; done) | exact all_size (by rfl) | exact size_map (fun _ => rfl) | exact size_one rfl | exact take_size (fun _ => rfl) | exact dsize_one rfl | exact dsize_map (fun _ => rfl) | exact dsize_its (fun _ => rfl) | (simp only [LENS]; omega) | (simp; done) | decide))
        | (intro hfact)
        | ((with_reducible apply Drawn.by0); (focus kernel_rfl); intro hfact; (try simp only [List.mem_append, List.mem_cons, List.not_mem_nil, or_false, false_or, or_assoc, forall_eq_or_imp, forall_eq, false_implies, implies_true, forall_const, and_true, true_and] at hfact))
        | ((try dsimp only); first | rw [map_get he] | rw [map_getD he] | rw [map_getN he])
        | (refine CallIs.mk ⟨_, _, a1, ?_⟩)
        | (refine CallIs.mk ⟨_, _, spec_srcovers _ _ (by omega), ?_⟩))
      all_goals (try (conv => whnf))
      all_goals first
        | (simp [-List.append_assoc, allStep, *] at hA
           first
           | (refine RoundE.aft hA ?_ ?_
              · (try dsimp only); (try rw [wrap_succ hk hm]); (try simp only [List.map_append, List.map_cons, List.map_nil])
                show norm _ _ = upd _ _
                kernel_rfl
              · first | trivial | omega | ((try dsimp only); simp only [LENS]; omega) | ((try dsimp only); (try simp at *); omega))
           | (refine Done.mk ⟨?_, by kernel_rfl⟩ (by kernel_rfl)
              have hA' := hA
              first | (rw [← hA']; first | rfl | kernel_rfl | (simp only [List.map_append, List.map_cons, List.map_nil]; first | rfl | kernel_rfl)) | (rw [← aft_inr hA']; first | rfl | kernel_rfl | (simp only [List.map_append, List.map_cons, List.map_nil]; first | rfl | kernel_rfl)) | (simp at hA' ⊢; simp [*]; done))
          )
    · rintro ⟨⟩ k rfl hi hA
      dsimp only at hi hA ⊢
      repeat' ((conv => whnf); first
        | (refine And.intro (fun hb => ?_) (fun hb => ?_) <;> first | (exact absurd hb (by first | assumption | decide)) | (with_reducible exact absurd hb Bool.false_ne_true) | (with_reducible exact absurd hb.symm Bool.false_ne_true) | (exfalso; first | (simp only [LENS] at hb <;> omega) | omega) | ((try rw [hb]); (try simp only [NRMS] at hb); (try subst hb)))
        | (refine Exists.intro ?_ ?_; focus (and_intros <;> first | omega | exact rfl | assumption | (intro _ hh; cases hh; done) | exact all_size (by rfl) | exact size_map (fun _ => rfl) | exact size_one rfl | exact take_size (fun _ => rfl) | exact dsize_one rfl | exact dsize_map (fun _ => rfl) | exact dsize_its (fun _ => rfl) | (simp only [LENS]; omega) | (simp; done) | decide))
        | (intro hfact)
        | ((with_reducible apply Drawn.by0); (focus kernel_rfl); intro hfact; (try simp only [List.mem_append, List.mem_cons, List.not_mem_nil, or_false, false_or, or_assoc, forall_eq_or_imp, forall_eq, false_implies, implies_true, forall_const, and_true, true_and] at hfact))
        | (refine CallIs.mk ⟨_, _, a1, ?_⟩)
        | (refine CallIs.mk ⟨_, _, spec_srcovers _ _ (by omega), ?_⟩))
      all_goals (try (conv => whnf))
      all_goals first
        | (simp [-List.append_assoc, allStep, *] at hA
           first
           | (refine RoundE.aft hA ?_ ?_
              · (try dsimp only); (try rw [wrap_succ hk hm]); (try simp only [List.map_append, List.map_cons, List.map_nil])
                show norm _ _ = upd _ _
                kernel_rfl
              · first | trivial | omega | ((try dsimp only); simp only [LENS]; omega) | ((try dsimp only); (try simp at *); omega))
           | (refine Done.mk ⟨?_, by kernel_rfl⟩ (by kernel_rfl)
              have hA' := hA
              first | (rw [← hA']; first | rfl | kernel_rfl | (simp only [List.map_append, List.map_cons, List.map_nil]; first | rfl | kernel_rfl)) | (rw [← aft_inr hA']; first | rfl | kernel_rfl | (simp only [List.map_append, List.map_cons, List.map_nil]; first | rfl | kernel_rfl)) | (simp at hA' ⊢; simp [*]; done))
          )

theorem spec_userName (x : Usr) : Fn Try.prog F_roll_userName [.v x.toI] (Is (.v (.str x.name)) [.no]) := by
  refine of_roll_userName ?_ (by simp)
  repeat' ((conv => whnf); first
    | (refine And.intro (fun hb => ?_) (fun hb => ?_) <;> first | (exact absurd hb (by first | assumption | decide)) | (with_reducible exact absurd hb Bool.false_ne_true) | (with_reducible exact absurd hb.symm Bool.false_ne_true) | (exfalso; first | (simp only [LENS] at hb <;> omega) | omega) | ((try rw [hb]); (try simp only [NRMS] at hb); (try subst hb)))
    | (refine Exists.intro ?_ ?_; focus (and_intros <;> first | omega | exact rfl | assumption | (intro _ hh; cases hh; done) | exact all_size (by rfl) | exact size_map (fun _ => rfl) | exact size_one rfl | exact take_size (fun _ => rfl) | exact dsize_one rfl | exact dsize_map (fun _ => rfl) | exact dsize_its (fun _ => rfl) | (simp only [LENS]; omega) | (simp; done) | decide))
    | (intro hfact))
  all_goals (try (conv => whnf))
  exact Done.mk ⟨rfl, by kernel_rfl⟩ (by kernel_rfl)
def getU (l : List Usr) (n : Str) : Usr × Bool := match l.find? (fun t => decide (t.name = n)) with
  | some x => (x, true)
  | none => (⟨[], [], [], [], []⟩, false)
def getUStep (n : Str) (_ : Unit) (e : Usr) : Unit ⊕ (Usr × Bool) := if e.name = n then .inr (e, true) else .inl ()
theorem getU_run (n : Str) : ∀ (l : List Usr) (u : Unit), runL (getUStep n) (fun _ => ((⟨[], [], [], [], []⟩ : Usr), false)) l u = getU l n
  | [], _ => rfl
  | a :: r, u => by
    rw [runL_cons]
    by_cases h : a.name = n
    · simp [getUStep, h, aft, getU]
    · have := getU_run n r ()
      simp [getUStep, h, aft, getU, this]
theorem spec_getU (l : List Usr) (n : Str) (hl : l.length ≤ 10000) : Fn Try.prog F_roll_get_api_User [.v (.list (l.map Usr.toI)), .v (.str n), .v (.fn F_roll_userName)] (Is (.tup [.i (getU l n).1.toI, .i (.bool (getU l n).2)]) [.no, .no, .no]) := by
  refine of_roll_get_api_User ?_ (by simp)
  have hm : l.length ≤ maxLen := by simp only [maxLen]; omega
  have hAns : runL (getUStep n) (fun _ => ((⟨[], [], [], [], []⟩ : Usr), false)) l () = getU l n := getU_run n l ()
  generalize getU l n = A at hAns ⊢
  repeat' ((conv => whnf); first
    | (refine And.intro (fun hb => ?_) (fun hb => ?_) <;> first | (exact absurd hb (by first | assumption | decide)) | (with_reducible exact absurd hb Bool.false_ne_true) | (with_reducible exact absurd hb.symm Bool.false_ne_true) | (exfalso; first | (simp only [LENS] at hb <;> omega) | omega) | ((try rw [hb]); (try simp only [NRMS] at hb); (try subst hb)))
    | (refine Exists.intro ?_ ?_; focus (and_intros <;> first | omega | exact rfl | assumption | (intro _ hh; cases hh; done) | exact all_size (by rfl) | exact size_map (fun _ => rfl) | exact size_one rfl | exact take_size (fun _ => rfl) | exact dsize_one rfl | exact dsize_map (fun _ => rfl) | exact dsize_its (fun _ => rfl) | (simp only [LENS]; omega) | (simp; done) | decide))
    | (intro hfact))
  all_goals (try (conv => whnf))
  refine each (l) _ _ _ (fun k s => [(13, .v (.int .i64 k))]) (fun k s => True) () (by kernel_rfl) (by simp) hAns ?_ ?_ <;> clear hAns
  · rintro k ⟨⟩ e he hk hi hA
    dsimp only at hi hA ⊢
    repeat' ((conv => whnf); first
      | (refine And.intro (fun hb => ?_) (fun hb => ?_) <;> first | (exact absurd hb (by first | assumption | decide)) | (with_reducible exact absurd hb Bool.false_ne_true) | (with_reducible exact absurd hb.symm Bool.false_ne_true) | (exfalso; first | (simp only [LENS] at hb <;> omega) | omega) | ((try rw [hb]); (try simp only [NRMS] at hb); (try subst hb)))
      | (refine Exists.intro ?_ ?_; focus (and_intros <;> first | omega | exact rfl | assumption | (intro _ hh; cases hh; done) | exact all_size (by rfl) | exact size_map (fun _ => rfl) | exact size_one rfl | exact take_size (fun _ => rfl) | exact dsize_one rfl | exact dsize_map (fun _ => rfl) | exact dsize_its (fun _ => rfl) | (simp only [LENS]; omega) | (simp; done) | decide))
      | (intro hfact)
      | ((try dsimp only); first | rw [map_get he] | rw [map_getD he] | rw [map_getN he])
      | (refine CallWp.mk ⟨_, spec_userName _, ?_⟩; rintro _ _ ⟨rfl, rfl⟩))
    all_goals (try (conv => whnf))
    all_goals first
      | (simp [-List.append_assoc, getUStep, *] at hA
         first
         | (refine RoundE.aft hA ?_ ?_
            · (try dsimp only); (try rw [wrap_succ hk hm]); (try simp only [List.map_append, List.map_cons, List.map_nil])
              show norm _ _ = upd _ _
              kernel_rfl
            · first | trivial | omega | ((try dsimp only); simp only [LENS]; omega) | ((try dsimp only); (try simp at *); omega))
         | (refine Done.mk ⟨?_, by kernel_rfl⟩ (by kernel_rfl)
            have hA' := hA
            first | (rw [← hA']; first | rfl | kernel_rfl | (simp only [List.map_append, List.map_cons, List.map_nil]; first | rfl | kernel_rfl)) | (rw [← aft_inr hA']; first | rfl | kernel_rfl | (simp only [List.map_append, List.map_cons, List.map_nil]; first | rfl | kernel_rfl)) | (simp at hA' ⊢; simp [*]; done))
        )
  · rintro ⟨⟩ k rfl hi hA
    dsimp only at hi hA ⊢
    repeat' ((conv => whnf); first
      | (refine And.intro (fun hb => ?_) (fun hb => ?_) <;> first | (exact absurd hb (by first | assumption | decide)) | (with_reducible exact absurd hb Bool.false_ne_true) | (with_reducible exact absurd hb.symm Bool.false_ne_true) | (exfalso; first | (simp only [LENS] at hb <;> omega) | omega) | ((try rw [hb]); (try simp only [NRMS] at hb); (try subst hb)))
      | (refine Exists.intro ?_ ?_; focus (and_intros <;> first | omega | exact rfl | assumption | (intro _ hh; cases hh; done) | exact all_size (by rfl) | exact size_map (fun _ => rfl) | exact size_one rfl | exact take_size (fun _ => rfl) | exact dsize_one rfl | exact dsize_map (fun _ => rfl) | exact dsize_its (fun _ => rfl) | (simp only [LENS]; omega) | (simp; done) | decide))
      | (intro hfact)
      | (refine CallWp.mk ⟨_, spec_userName _, ?_⟩; rintro _ _ ⟨rfl, rfl⟩))
    all_goals (try (conv => whnf))
    subst hA
    exact Done.mk ⟨rfl, by kernel_rfl⟩ (by kernel_rfl)
theorem spec_cloneUsr (l : List Str) (hl : l.length ≤ 100000) : Fn Try.prog F_slices_Clone_L_string_string [.v (.list (l.map I.str))] (Is (.vec T_string 1 (l.map I.str)) [.no]) := by
  refine ofv_slices_Clone_L_string_string ?_ (by simp)
  repeat' ((conv => whnf); first
    | (refine And.intro (fun hb => ?_) (fun hb => ?_) <;> first | (exact absurd hb (by first | assumption | decide)) | (with_reducible exact absurd hb Bool.false_ne_true) | (with_reducible exact absurd hb.symm Bool.false_ne_true) | (exfalso; first | (simp only [LENS] at hb <;> omega) | omega) | ((try rw [hb]); (try simp only [NRMS] at hb); (try subst hb)))
    | (refine Exists.intro ?_ ?_; focus (and_intros <;> first | omega | exact rfl | assumption | (intro _ hh; cases hh; done) | exact all_size (by rfl) | exact size_map (fun _ => rfl) | exact size_one rfl | exact take_size (fun _ => rfl) | exact dsize_one rfl | exact dsize_map (fun _ => rfl) | exact dsize_its (fun _ => rfl) | (simp only [LENS]; omega) | (simp; done) | decide))
    | (intro hfact))
  all_goals (try (conv => whnf))
  · refine Done.mk ⟨congrArg (fun l => SV.vec T_string 1 l) ?_, by kernel_rfl⟩ (by kernel_rfl)
    exact (hfact rfl).symm
  · exact Done.mk ⟨congrArg (fun l => SV.vec T_string 1 l) (List.nil_append _), by kernel_rfl⟩ (by kernel_rfl)
theorem spec_rollUser (r : Roll) (hf : r.Small) (n : Str) : Fn Try.prog F_roll_User [.v r.toI, .v (.str n)] (Is (.tup [.i (getU r.usrs n).1.toI, .i (.bool (getU r.usrs n).2)]) [.no, .no]) := by
  refine of_roll_User ?_ (by simp)
  have hb1 := hf.hU
  have g := spec_getU r.usrs n (by omega)
  have hl : (getU r.usrs n).1.roles.length ≤ 1000 := by
    unfold getU
    split
    · rename_i x hx; exact hf.hR x (List.mem_of_find?_eq_some hx)
    · simp
  generalize getU r.usrs n = x at g hl ⊢
  have c := spec_cloneUsr x.1.roles (by omega)
  repeat' ((conv => whnf); first
    | (refine And.intro (fun hb => ?_) (fun hb => ?_) <;> first | (exact absurd hb (by first | assumption | decide)) | (with_reducible exact absurd hb Bool.false_ne_true) | (with_reducible exact absurd hb.symm Bool.false_ne_true) | (exfalso; first | (simp only [LENS] at hb <;> omega) | omega) | ((try rw [hb]); (try simp only [NRMS] at hb); (try subst hb)))
    | (refine Exists.intro ?_ ?_; focus (and_intros <;> first | omega | exact rfl | assumption | (intro _ hh; cases hh; done) | exact all_size (by rfl) | exact size_map (fun _ => rfl) | exact size_one rfl | exact take_size (fun _ => rfl) | exact dsize_one rfl | exact dsize_map (fun _ => rfl) | exact dsize_its (fun _ => rfl) | (simp only [LENS]; omega) | (simp; done) | decide))
    | (intro hfact)
    | (refine CallWp.mk ⟨_, g, ?_⟩; rintro _ _ ⟨rfl, rfl⟩)
    | (refine CallWp.mk ⟨_, c, ?_⟩; rintro _ _ ⟨rfl, rfl⟩))
  all_goals (try (conv => whnf))
  exact Done.mk ⟨rfl, by kernel_rfl⟩ (by kernel_rfl)
theorem spec_roleName (x : Rol) : Fn Try.prog F_roll_roleName [.v x.toI] (Is (.v (.str x.name)) [.no]) := by
  refine of_roll_roleName ?_ (by simp)
  repeat' ((conv => whnf); first
    | (refine And.intro (fun hb => ?_) (fun hb => ?_) <;> first | (exact absurd hb (by first | assumption | decide)) | (with_reducible exact absurd hb Bool.false_ne_true) | (with_reducible exact absurd hb.symm Bool.false_ne_true) | (exfalso; first | (simp only [LENS] at hb <;> omega) | omega) | ((try rw [hb]); (try simp only [NRMS] at hb); (try subst hb)))
    | (refine Exists.intro ?_ ?_; focus (and_intros <;> first | omega | exact rfl | assumption | (intro _ hh; cases hh; done) | exact all_size (by rfl) | exact size_map (fun _ => rfl) | exact size_one rfl | exact take_size (fun _ => rfl) | exact dsize_one rfl | exact dsize_map (fun _ => rfl) | exact dsize_its (fun _ => rfl) | (simp only [LENS]; omega) | (simp; done) | decide))
    | (intro hfact))
  all_goals (try (conv => whnf))
  exact Done.mk ⟨rfl, by kernel_rfl⟩ (by kernel_rfl)
def getR (l : List Rol) (n : Str) : Rol × Bool := match l.find? (fun t => decide (t.name = n)) with
  | some x => (x, true)
  | none => (⟨[], [], []⟩, false)
def getRStep (n : Str) (_ : Unit) (e : Rol) : Unit ⊕ (Rol × Bool) := if e.name = n then .inr (e, true) else .inl ()
theorem getR_run (n : Str) : ∀ (l : List Rol) (u : Unit), runL (getRStep n) (fun _ => ((⟨[], [], []⟩ : Rol), false)) l u = getR l n
  | [], _ => rfl
  | a :: r, u => by
    rw [runL_cons]
    by_cases h : a.name = n
    · simp [getRStep, h, aft, getR]
    · have := getR_run n r ()
      simp [getRStep, h, aft, getR, this]
theorem spec_getR (l : List Rol) (n : Str) (hl : l.length ≤ 10000) : Fn Try.prog F_roll_get_api_Role [.v (.list (l.map Rol.toI)), .v (.str n), .v (.fn F_roll_roleName)] (Is (.tup [.i (getR l n).1.toI, .i (.bool (getR l n).2)]) [.no, .no, .no]) := by
  refine of_roll_get_api_Role ?_ (by simp)
  have hm : l.length ≤ maxLen := by simp only [maxLen]; omega
  have hAns : runL (getRStep n) (fun _ => ((⟨[], [], []⟩ : Rol), false)) l () = getR l n := getR_run n l ()
  generalize getR l n = A at hAns ⊢
  repeat' ((conv => whnf); first
    | (refine And.intro (fun hb => ?_) (fun hb => ?_) <;> first | (exact absurd hb (by first | assumption | decide)) | (with_reducible exact absurd hb Bool.false_ne_true) | (with_reducible exact absurd hb.symm Bool.false_ne_true) | (exfalso; first | (simp only [LENS] at hb <;> omega) | omega) | ((try rw [hb]); (try simp only [NRMS] at hb); (try subst hb)))
    | (refine Exists.intro ?_ ?_; focus (and_intros <;> first | omega | exact rfl | assumption | (intro _ hh; cases hh; done) | exact all_size (by rfl) | exact size_map (fun _ => rfl) | exact size_one rfl | exact take_size (fun _ => rfl) | exact dsize_one rfl | exact dsize_map (fun _ => rfl) | exact dsize_its (fun _ => rfl) | (simp only [LENS]; omega) | (simp; done) | decide))
    | (intro hfact))
  all_goals (try (conv => whnf))
  refine each (l) _ _ _ (fun k s => [(13, .v (.int .i64 k))]) (fun k s => True) () (by kernel_rfl) (by simp) hAns ?_ ?_ <;> clear hAns
  · rintro k ⟨⟩ e he hk hi hA
    dsimp only at hi hA ⊢
    repeat' ((conv => whnf); first
      | (refine And.intro (fun hb => ?_) (fun hb => ?_) <;> first | (exact absurd hb (by first | assumption | decide)) | (with_reducible exact absurd hb Bool.false_ne_true) | (with_reducible exact absurd hb.symm Bool.false_ne_true) | (exfalso; first | (simp only [LENS] at hb <;> omega) | omega) | ((try rw [hb]); (try simp only [NRMS] at hb); (try subst hb)))
      | (refine Exists.intro ?_ ?_; focus (and_intros <;> first | omega | exact rfl | assumption | (intro _ hh; cases hh; done) | exact all_size (by rfl) | exact size_map (fun _ => rfl) | exact size_one rfl | exact take_size (fun _ => rfl) | exact dsize_one rfl | exact dsize_map (fun _ => rfl) | exact dsize_its (fun _ => rfl) | (simp only [LENS]; omega) | (simp; done) | decide))
      | (intro hfact)
      | ((try dsimp only); first | rw [map_get he] | rw [map_getD he] | rw [map_getN he])
      | (refine CallWp.mk ⟨_, spec_roleName _, ?_⟩; rintro _ _ ⟨rfl, rfl⟩))
    all_goals (try (conv => whnf))
    all_goals first
      | (simp [-List.append_assoc, getRStep, *] at hA
         first
         | (refine RoundE.aft hA ?_ ?_
            · (try dsimp only); (try rw [wrap_succ hk hm]); (try simp only [List.map_append, List.map_cons, List.map_nil])
              show norm _ _ = upd _ _
              kernel_rfl
            · first | trivial | omega | ((try dsimp only); simp only [LENS]; omega) | ((try dsimp only); (try simp at *); omega))
         | (refine Done.mk ⟨?_, by kernel_rfl⟩ (by kernel_rfl)
            have hA' := hA
            first | (rw [← hA']; first | rfl | kernel_rfl | (simp only [List.map_append, List.map_cons, List.map_nil]; first | rfl | kernel_rfl)) | (rw [← aft_inr hA']; first | rfl | kernel_rfl | (simp only [List.map_append, List.map_cons, List.map_nil]; first | rfl | kernel_rfl)) | (simp at hA' ⊢; simp [*]; done))
        )
  · rintro ⟨⟩ k rfl hi hA
    dsimp only at hi hA ⊢
    repeat' ((conv => whnf); first
      | (refine And.intro (fun hb => ?_) (fun hb => ?_) <;> first | (exact absurd hb (by first | assumption | decide)) | (with_reducible exact absurd hb Bool.false_ne_true) | (with_reducible exact absurd hb.symm Bool.false_ne_true) | (exfalso; first | (simp only [LENS] at hb <;> omega) | omega) | ((try rw [hb]); (try simp only [NRMS] at hb); (try subst hb)))
      | (refine Exists.intro ?_ ?_; focus (and_intros <;> first | omega | exact rfl | assumption | (intro _ hh; cases hh; done) | exact all_size (by rfl) | exact size_map (fun _ => rfl) | exact size_one rfl | exact take_size (fun _ => rfl) | exact dsize_one rfl | exact dsize_map (fun _ => rfl) | exact dsize_its (fun _ => rfl) | (simp only [LENS]; omega) | (simp; done) | decide))
      | (intro hfact)
      | (refine CallWp.mk ⟨_, spec_roleName _, ?_⟩; rintro _ _ ⟨rfl, rfl⟩))
    all_goals (try (conv => whnf))
    subst hA
    exact Done.mk ⟨rfl, by kernel_rfl⟩ (by kernel_rfl)
theorem spec_cloneRol (l : List Gra) (hl : l.length ≤ 100000) : Fn Try.prog F_slices_Clone_L_api_Grant_api_Grant [.v (.list (l.map Gra.toI))] (Is (.vec T_api_Grant 4 (l.map Gra.toI)) [.no]) := by
  refine ofv_slices_Clone_L_api_Grant_api_Grant ?_ (by simp)
  repeat' ((conv => whnf); first
    | (refine And.intro (fun hb => ?_) (fun hb => ?_) <;> first | (exact absurd hb (by first | assumption | decide)) | (with_reducible exact absurd hb Bool.false_ne_true) | (with_reducible exact absurd hb.symm Bool.false_ne_true) | (exfalso; first | (simp only [LENS] at hb <;> omega) | omega) | ((try rw [hb]); (try simp only [NRMS] at hb); (try subst hb)))
    | (refine Exists.intro ?_ ?_; focus (and_intros <;> first | omega | exact rfl | assumption | (intro _ hh; cases hh; done) | exact all_size (by rfl) | exact size_map (fun _ => rfl) | exact size_one rfl | exact take_size (fun _ => rfl) | exact dsize_one rfl | exact dsize_map (fun _ => rfl) | exact dsize_its (fun _ => rfl) | (simp only [LENS]; omega) | (simp; done) | decide))
    | (intro hfact))
  all_goals (try (conv => whnf))
  · refine Done.mk ⟨congrArg (fun l => SV.vec T_api_Grant 4 l) ?_, by kernel_rfl⟩ (by kernel_rfl)
    exact (hfact rfl).symm
  · exact Done.mk ⟨congrArg (fun l => SV.vec T_api_Grant 4 l) (List.nil_append _), by kernel_rfl⟩ (by kernel_rfl)
theorem spec_rollRole (r : Roll) (hf : r.Small) (n : Str) : Fn Try.prog F_roll_Role [.v r.toI, .v (.str n)] (Is (.tup [.i (getR r.rols n).1.toI, .i (.bool (getR r.rols n).2)]) [.no, .no]) := by
  refine of_roll_Role ?_ (by simp)
  have hb1 := hf.hX
  have g := spec_getR r.rols n (by omega)
  have hl : (getR r.rols n).1.grants.length ≤ 1000 := by
    unfold getR
    split
    · rename_i x hx; exact hf.hG x (List.mem_of_find?_eq_some hx)
    · simp
  generalize getR r.rols n = x at g hl ⊢
  have c := spec_cloneRol x.1.grants (by omega)
  repeat' ((conv => whnf); first
    | (refine And.intro (fun hb => ?_) (fun hb => ?_) <;> first | (exact absurd hb (by first | assumption | decide)) | (with_reducible exact absurd hb Bool.false_ne_true) | (with_reducible exact absurd hb.symm Bool.false_ne_true) | (exfalso; first | (simp only [LENS] at hb <;> omega) | omega) | ((try rw [hb]); (try simp only [NRMS] at hb); (try subst hb)))
    | (refine Exists.intro ?_ ?_; focus (and_intros <;> first | omega | exact rfl | assumption | (intro _ hh; cases hh; done) | exact all_size (by rfl) | exact size_map (fun _ => rfl) | exact size_one rfl | exact take_size (fun _ => rfl) | exact dsize_one rfl | exact dsize_map (fun _ => rfl) | exact dsize_its (fun _ => rfl) | (simp only [LENS]; omega) | (simp; done) | decide))
    | (intro hfact)
    | (refine CallWp.mk ⟨_, g, ?_⟩; rintro _ _ ⟨rfl, rfl⟩)
    | (refine CallWp.mk ⟨_, c, ?_⟩; rintro _ _ ⟨rfl, rfl⟩))
  all_goals (try (conv => whnf))
  exact Done.mk ⟨rfl, by kernel_rfl⟩ (by kernel_rfl)
end Go.Ab


set_option maxRecDepth 100000
set_option maxHeartbeats 40000000
namespace Go.Ab
open Go.Proofs

theorem findAt_find {α : Type} (p : α → Bool) : ∀ (k : Nat) (l : List α), (findAt p k l = -1 ∧ l.find? p = none) ∨ ∃ j : Nat, findAt p k l = ((k + j : Nat) : Int) ∧ j < l.length ∧ l.find? p = l[j]?
  | _, [] => .inl ⟨rfl, rfl⟩
  | k, a :: r => by
    unfold findAt
    by_cases h : p a = true
    · rw [if_pos h]
      exact .inr ⟨0, rfl, by simp, by simp [h]⟩
    · rw [if_neg h]
      rcases findAt_find p (k + 1) r with ⟨h1, h2⟩ | ⟨j, h1, h2, h3⟩
      · exact .inl ⟨h1, by simp [h, h2]⟩
      · exact .inr ⟨j + 1, by rw [h1]; congr 1; omega, by simp; omega, by simp [h, h3]⟩
theorem rolesOf_get (r : Roll) (u : Str) : (getU r.usrs u).1.roles = rolesOf r u := by
  unfold getU rolesOf
  rcases findAt_find (fun t : Usr => decide (t.name = u)) 0 r.usrs with ⟨h1, h2⟩ | ⟨j, h1, h2, h3⟩
  · rw [h2, show r.usrAt u = -1 from h1]; rfl
  · rw [h3, show r.usrAt u = ((0 + j : Nat) : Int) from h1, Nat.zero_add, if_neg (by omega), Int.toNat_natCast, List.getElem?_eq_getElem h2]
theorem grantsOf_get (r : Roll) (n : Str) : (getR r.rols n).1.grants = grantsOf r n := by
  unfold getR grantsOf
  rcases findAt_find (fun t : Rol => decide (t.name = n)) 0 r.rols with ⟨h1, h2⟩ | ⟨j, h1, h2, h3⟩
  · rw [h2, show r.rolAt n = -1 from h1]; rfl
  · rw [h3, show r.rolAt n = ((0 + j : Nat) : Int) from h1, Nat.zero_add, if_neg (by omega), Int.toNat_natCast, List.getElem?_eq_getElem h2]
theorem spec_spans (hnil : SortNil) (r : Roll) (hf : r.Fit) (u : Str) (w : Bool) : Fn Try.prog F_allow_Spans [.v r.toI, .v (.str u), .v (.bool w)] (Is (.v (.list (sps (uni (allM r u w))))) [.no, .no, .no]) := by
  refine of_allow_Spans ?_ (by simp)
  have g1 := spec_rollUser r hf.small u
  have hxl := rolesOf_length hf u
  have hro := rolesOf_get r u
  obtain ⟨x, hx⟩ : ∃ x, x = getU r.usrs u := ⟨_, rfl⟩
  rw [← hx] at g1 hro
  rw [← hro] at hxl
  have hAns : runL (foldStep (fun o n => o ++ spansOf r w n)) foldFin x.1.roles [] = allM r u w := by
    rw [fold_run, foldl_app, allM, hro]; rfl
  have hm : x.1.roles.length ≤ maxLen := by simp only [maxLen]; omega
  have hal := allM_length hf u w
  have un := spec_union hnil (allM r u w) (by omega)
  repeat' ((conv => whnf); first
    | (refine And.intro (fun hb => ?_) (fun hb => ?_) <;> first | (exact absurd hb (by first | assumption | decide)) | (with_reducible exact absurd hb Bool.false_ne_true) | (with_reducible exact absurd hb.symm Bool.false_ne_true) | (exfalso; first | (simp only [LENS] at hb <;> omega) | omega) | ((try rw [hb]); (try simp only [NRMS] at hb); (try subst hb)))
    | (refine Exists.intro ?_ ?_; focus (and_intros <;> first | omega | exact rfl | assumption | (intro _ hh; cases hh; done) | exact all_size (by rfl) | exact size_map (fun _ => rfl) | exact size_one rfl | exact take_size (fun _ => rfl) | exact dsize_one rfl | exact dsize_map (fun _ => rfl) | exact dsize_its (fun _ => rfl) | (simp only [LENS]; omega) | (simp; done) | decide))
    | (intro hfact)
    | (refine CallWp.mk ⟨_, g1, ?_⟩; rintro _ _ ⟨rfl, rfl⟩))
  all_goals (try (conv => whnf))
  refine each x.1.roles _ _ _ (fun k s => [(9, .vec T_api_Span 2 (sps s)), (25, .v (.int .i64 k))]) (fun k s => s.length ≤ 8 * k) [] (by kernel_rfl) (by simp) hAns ?_ ?_ <;> clear hAns
  · rintro k s e he hk hi hA
    dsimp only at hi hA ⊢
    have g2 := spec_rollRole r hf.small e
    have hsl := spansOf_length hf w e
    have hgr := grantsOf_get r e
    have hyl := grantsOf_length hf e
    have hsp : spansOf r w e = ((getR r.rols e).1.grants.filter (gsel w)).map Gra.sp := by rw [hgr]; rfl
    rw [← hgr] at hyl
    obtain ⟨y, hy⟩ : ∃ y, y = getR r.rols e := ⟨_, rfl⟩
    rw [← hy] at g2 hsp hyl
    have hA2 : runL (foldStep (fun o g => if gsel w g then o ++ [Gra.sp g] else o)) foldFin y.1.grants s = s ++ spansOf r w e := by
      rw [fold_run, foldl_sel, hsp]
    repeat' ((conv => whnf); first
      | (refine And.intro (fun hb => ?_) (fun hb => ?_) <;> first | (exact absurd hb (by first | assumption | decide)) | (with_reducible exact absurd hb Bool.false_ne_true) | (with_reducible exact absurd hb.symm Bool.false_ne_true) | (exfalso; first | (simp only [LENS] at hb <;> omega) | omega) | ((try rw [hb]); (try simp only [NRMS] at hb); (try subst hb)))
      | (refine Exists.intro ?_ ?_; focus (and_intros <;> first | omega | exact rfl | assumption | (intro _ hh; cases hh; done) | exact all_size (by rfl) | exact size_map (fun _ => rfl) | exact size_one rfl | exact take_size (fun _ => rfl) | exact dsize_one rfl | exact dsize_map (fun _ => rfl) | exact dsize_its (fun _ => rfl) | (simp only [LENS]; omega) | (simp; done) | decide))
      | (intro hfact)
      | ((try dsimp only); first | rw [map_get he] | rw [map_getD he] | rw [map_getN he])
      | (refine CallWp.mk ⟨_, g2, ?_⟩; rintro _ _ ⟨rfl, rfl⟩))
    all_goals (try (conv => whnf))
    obtain ⟨hko, hmo⟩ : k < x.1.roles.length ∧ x.1.roles.length ≤ maxLen := ⟨hk, hm⟩
    refine each y.1.grants _ _ _ (fun k s => [(9, .vec T_api_Span 2 (sps s)), (38, .v (.int .i64 k))]) (fun k' s' => s'.length ≤ s.length + k') s (by kernel_rfl) (by simp) hA2 ?_ ?_ <;> clear hA2
    · clear hA
      rintro k' s' ⟨sp, rr, ww⟩ hg hk hi' hA
      dsimp only at hi' hA ⊢
      have hm : y.1.grants.length ≤ maxLen := by simp only [maxLen]; omega
      have hle := sel_len (gsel w ⟨sp, rr, ww⟩) s' sp
      cases w <;> cases rr <;> cases ww
      all_goals (
        repeat' ((conv => whnf); first
          | (refine And.intro (fun hb => ?_) (fun hb => ?_) <;> first | (exact absurd hb (by first | assumption | decide)) | (with_reducible exact absurd hb Bool.false_ne_true) | (with_reducible exact absurd hb.symm Bool.false_ne_true) | (exfalso; first | (simp only [LENS] at hb <;> omega) | omega) | ((try rw [hb]); (try simp only [NRMS] at hb); (try subst hb)))
          | (refine Exists.intro ?_ ?_; focus (and_intros <;> first | omega | exact rfl | assumption | (intro _ hh; cases hh; done) | exact all_size (by rfl) | exact size_map (fun _ => rfl) | exact size_one rfl | exact take_size (fun _ => rfl) | exact dsize_one rfl | exact dsize_map (fun _ => rfl) | exact dsize_its (fun _ => rfl) | (simp only [LENS]; omega) | (simp; done) | decide))
          | (intro hfact)
          | ((try dsimp only); first | rw [map_get hg] | rw [map_getD hg] | rw [map_getN hg]))
        all_goals (try (conv => whnf)))
      all_goals (refine RoundE.by _ ?_ (Nat.le_trans hle (by omega)) hA)
      all_goals (rw [wrap_succ hk hm]; simp only [gsel, if_true, if_false, Bool.false_eq_true, sps, List.map_append, List.map_cons, List.map_nil])
      all_goals (show norm _ _ = upd _ _; kernel_rfl)
    · rintro s' k' rfl hi' hA'
      dsimp only at hi' hA' ⊢
      obtain rfl : s' = s ++ spansOf r w e := hA'
      repeat' ((conv => whnf); first
        | (refine And.intro (fun hb => ?_) (fun hb => ?_) <;> first | (exact absurd hb (by first | assumption | decide)) | (with_reducible exact absurd hb Bool.false_ne_true) | (with_reducible exact absurd hb.symm Bool.false_ne_true) | (exfalso; first | (simp only [LENS] at hb <;> omega) | omega) | ((try rw [hb]); (try simp only [NRMS] at hb); (try subst hb)))
        | (refine Exists.intro ?_ ?_; focus (and_intros <;> first | omega | exact rfl | assumption | (intro _ hh; cases hh; done) | exact all_size (by rfl) | exact size_map (fun _ => rfl) | exact size_one rfl | exact take_size (fun _ => rfl) | exact dsize_one rfl | exact dsize_map (fun _ => rfl) | exact dsize_its (fun _ => rfl) | (simp only [LENS]; omega) | (simp; done) | decide))
        | (intro hfact))
      all_goals (try (conv => whnf))
      refine RoundE.by (s ++ spansOf r w e) ?_ (by simp; omega) hA
      rw [wrap_succ hk hm]
      show norm _ _ = upd _ _
      kernel_rfl
  · rintro s k rfl hi hA
    dsimp only at hi hA ⊢
    obtain rfl : s = allM r u w := hA
    repeat' ((conv => whnf); first
      | (refine And.intro (fun hb => ?_) (fun hb => ?_) <;> first | (exact absurd hb (by first | assumption | decide)) | (with_reducible exact absurd hb Bool.false_ne_true) | (with_reducible exact absurd hb.symm Bool.false_ne_true) | (exfalso; first | (simp only [LENS] at hb <;> omega) | omega) | ((try rw [hb]); (try simp only [NRMS] at hb); (try subst hb)))
      | (refine Exists.intro ?_ ?_; focus (and_intros <;> first | omega | exact rfl | assumption | (intro _ hh; cases hh; done) | exact all_size (by rfl) | exact size_map (fun _ => rfl) | exact size_one rfl | exact take_size (fun _ => rfl) | exact dsize_one rfl | exact dsize_map (fun _ => rfl) | exact dsize_its (fun _ => rfl) | (simp only [LENS]; omega) | (simp; done) | decide))
      | (intro hfact)
      | (refine CallWp.mk ⟨_, un, ?_⟩; rintro _ _ ⟨rfl, rfl⟩))
    all_goals (try (conv => whnf))
    exact Done.mk ⟨rfl, by kernel_rfl⟩ (by kernel_rfl)
theorem spec_covered (m l : List Sp) (hm1 : m.length ≤ 1000) (hl : l.length ≤ 1000) : Fn Try.prog F_allow_covered [.v (.list (sps m)), .v (.list (sps l))] (Is (.v (.bool (l.all fun s => decide (RCov m s)))) [.no, .no]) := by
  refine of_allow_covered ?_ (by simp)
  have hm : l.length ≤ maxLen := by simp only [maxLen]; omega
  have hAns : runL (allStep fun s => decide (RCov m s)) (fun _ => true) l () = l.all fun s => decide (RCov m s) := by rw [all_run, Bool.and_true]
  generalize (l.all fun s => decide (RCov m s)) = A at hAns ⊢
  repeat' ((conv => whnf); first
    | (refine And.intro (fun hb => ?_) (fun hb => ?_) <;> first | (exact absurd hb (by first | assumption | decide)) | (with_reducible exact absurd hb Bool.false_ne_true) | (with_reducible exact absurd hb.symm Bool.false_ne_true) | (exfalso; first | (simp only [LENS] at hb <;> omega) | omega) | ((try rw [hb]); (try simp only [NRMS] at hb); (try subst hb)))
    | (refine Exists.intro ?_ ?_; focus (and_intros <;> first | omega | exact rfl | assumption | (intro _ hh; cases hh; done) | exact all_size (by rfl) | exact size_map (fun _ => rfl) | exact size_one rfl | exact take_size (fun _ => rfl) | exact dsize_one rfl | exact dsize_map (fun _ => rfl) | exact dsize_its (fun _ => rfl) | (simp only [LENS]; omega) | (simp; done) | decide))
    | (intro hfact))
  all_goals (try (conv => whnf))
  refine each (l) _ _ _ (fun k s => [(9, .v (.int .i64 k))]) (fun k s => True) () (by kernel_rfl) (by simp) hAns ?_ ?_ <;> clear hAns
  · rintro k ⟨⟩ e he hk hi hA
    dsimp only at hi hA ⊢
    repeat' ((conv => whnf); first
      | (refine And.intro (fun hb => ?_) (fun hb => ?_) <;> first | (exact absurd hb (by first | assumption | decide)) | (with_reducible exact absurd hb Bool.false_ne_true) | (with_reducible exact absurd hb.symm Bool.false_ne_true) | (exfalso; first | (simp only [LENS] at hb <;> omega) | omega) | ((try rw [hb]); (try simp only [NRMS] at hb); (try subst hb)))
      | (refine Exists.intro ?_ ?_; focus (and_intros <;> first | omega | exact rfl | assumption | (intro _ hh; cases hh; done) | exact all_size (by rfl) | exact size_map (fun _ => rfl) | exact size_one rfl | exact take_size (fun _ => rfl) | exact dsize_one rfl | exact dsize_map (fun _ => rfl) | exact dsize_its (fun _ => rfl) | (simp only [LENS]; omega) | (simp; done) | decide))
      | (intro hfact)
      | ((try dsimp only); first | rw [map_get he] | rw [map_getD he] | rw [map_getN he])
      | (refine CallWp.mk ⟨_, spec_covers _ _ hm1, ?_⟩; rintro _ _ ⟨rfl, rfl⟩))
    all_goals (try (conv => whnf))
    all_goals first
      | (simp [-List.append_assoc, allStep, *] at hA
         first
         | (refine RoundE.aft hA ?_ ?_
            · (try dsimp only); (try rw [wrap_succ hk hm]); (try simp only [List.map_append, List.map_cons, List.map_nil])
              show norm _ _ = upd _ _
              kernel_rfl
            · first | trivial | omega | ((try dsimp only); simp only [LENS]; omega) | ((try dsimp only); (try simp at *); omega))
         | (refine Done.mk ⟨?_, by kernel_rfl⟩ (by kernel_rfl)
            have hA' := hA
            first | (rw [← hA']; first | rfl | kernel_rfl | (simp only [List.map_append, List.map_cons, List.map_nil]; first | rfl | kernel_rfl)) | (rw [← aft_inr hA']; first | rfl | kernel_rfl | (simp only [List.map_append, List.map_cons, List.map_nil]; first | rfl | kernel_rfl)) | (simp at hA' ⊢; simp [*]; done))
        )
  · rintro ⟨⟩ k rfl hi hA
    dsimp only at hi hA ⊢
    repeat' ((conv => whnf); first
      | (refine And.intro (fun hb => ?_) (fun hb => ?_) <;> first | (exact absurd hb (by first | assumption | decide)) | (with_reducible exact absurd hb Bool.false_ne_true) | (with_reducible exact absurd hb.symm Bool.false_ne_true) | (exfalso; first | (simp only [LENS] at hb <;> omega) | omega) | ((try rw [hb]); (try simp only [NRMS] at hb); (try subst hb)))
      | (refine Exists.intro ?_ ?_; focus (and_intros <;> first | omega | exact rfl | assumption | (intro _ hh; cases hh; done) | exact all_size (by rfl) | exact size_map (fun _ => rfl) | exact size_one rfl | exact take_size (fun _ => rfl) | exact dsize_one rfl | exact dsize_map (fun _ => rfl) | exact dsize_its (fun _ => rfl) | (simp only [LENS]; omega) | (simp; done) | decide))
      | (intro hfact)
      | (refine CallWp.mk ⟨_, spec_covers _ _ hm1, ?_⟩; rintro _ _ ⟨rfl, rfl⟩))
    all_goals (try (conv => whnf))
    subst hA
    exact Done.mk ⟨rfl, by kernel_rfl⟩ (by kernel_rfl)
theorem rCov_uni (l : List Sp) (s : Sp) : RCov (uni l) s ↔ RCov l s := by
  rw [rCov_iff, rCov_iff]
  have : ∀ k, AnyH (uni l) k ↔ AnyH l k := fun k => by rw [right_any (fun x hx => uni_right x hx) k, uni_keys]
  simp only [this]
theorem spec_may (hnil : SortNil) (r : Roll) (hf : r.Fit) (u : Str) (a c : List Sp) (ha : a.length ≤ 1000) (hc : c.length ≤ 1000) : Fn Try.prog F_allow_May [.v r.toI, .v (.str u), .v (.list (sps a)), .v (.list (sps c))] (Is (.v (.bool (mayM r u a c))) [.no, .no, .no, .no]) := by
  refine of_allow_May ?_ (by simp)
  have a0 := spec_spans hnil r hf u false
  have a1 := spec_spans hnil r hf u true
  have hu : ∀ l : List Sp, l.length ≤ 32 → (uni l).length ≤ 1000 := fun l h => by have := uni_length l; omega
  have c0 := spec_covered (uni (allM r u false)) a (hu _ (allM_length hf u false)) ha
  have c1 := spec_covered (uni (allM r u true)) c (hu _ (allM_length hf u true)) hc
  simp only [rCov_uni] at c0 c1
  repeat' ((conv => whnf); first
    | (refine And.intro (fun hb => ?_) (fun hb => ?_) <;> first | (exact absurd hb (by first | assumption | decide)) | (with_reducible exact absurd hb Bool.false_ne_true) | (with_reducible exact absurd hb.symm Bool.false_ne_true) | (exfalso; first | (simp only [LENS] at hb <;> omega) | omega) | ((try rw [hb]); (try simp only [NRMS] at hb); (try subst hb)))
    | (refine Exists.intro ?_ ?_; focus (and_intros <;> first | omega | exact rfl | assumption | (intro _ hh; cases hh; done) | exact all_size (by rfl) | exact size_map (fun _ => rfl) | exact size_one rfl | exact take_size (fun _ => rfl) | exact dsize_one rfl | exact dsize_map (fun _ => rfl) | exact dsize_its (fun _ => rfl) | (simp only [LENS]; omega) | (simp; done) | decide))
    | (intro hfact)
    | (refine CallWp.mk ⟨_, a0, ?_⟩; rintro _ _ ⟨rfl, rfl⟩)
    | (refine CallWp.mk ⟨_, a1, ?_⟩; rintro _ _ ⟨rfl, rfl⟩)
    | (refine CallWp.mk ⟨_, c0, ?_⟩; rintro _ _ ⟨rfl, rfl⟩)
    | (refine CallWp.mk ⟨_, c1, ?_⟩; rintro _ _ ⟨rfl, rfl⟩))
  all_goals (try (conv => whnf))
  all_goals (refine Done.mk ⟨SV.bool_congr ?_, by kernel_rfl⟩ (by kernel_rfl))
  all_goals (unfold mayM; simp only [*, Bool.true_and, Bool.false_and])
end Go.Ab

