/- One text of the proof whose last text says what is proved. -/
import Derived.Test.YtoombangidlpjaaA12
set_option linter.unusedVariables false
set_option linter.unusedSimpArgs false
set_option maxRecDepth 100000
set_option maxHeartbeats 40000000
namespace Go.Ab
open Go.Proofs

abbrev Roll.Inc (r : Roll) : Roll := { r with rev := r.rev + 1 }
theorem spec_do_bad (r : Roll) (hs : r.Small) (c : Cmd) (hrev : -9223372036854775808 ≤ r.rev ∧ r.rev ≤ 9223372036854775806) (hk : c.kind < 4 ∨ 14 < c.kind) : Fn Try.prog F_exchequerref15_Do [.v r.toI, .v c.toI] (Is (.tup [.i r.toI, .i (.int .i64 1)]) [.no, .no]) := by
  refine Fn.isF (x := [r.toI, .int .i64 1]) ?_
  refine ofd_exchequerref15_Do' ?_ (by simp)
  have cp := spec_copyN r hs
  have hw : IntKind.i64.wrap (r.rev + 1) = r.rev + 1 := wrap_id (by omega)
  repeat' ((conv => whnf); first
    | (refine And.intro (fun hb => ?_) (fun hb => ?_) <;> first | (exact absurd hb (by first | assumption | decide)) | (with_reducible exact absurd hb Bool.false_ne_true) | (with_reducible exact absurd hb.symm Bool.false_ne_true) | (exfalso; first | (simp only [LENS] at hb <;> omega) | omega) | ((try rw [hb]); (try simp only [NRMS] at hb); (try subst hb)))
    | (refine Exists.intro ?_ ?_; focus (and_intros <;> first | omega | exact rfl | assumption | (intro _ hh; cases hh; done) | exact all_size (by rfl) | exact size_map (fun _ => rfl) | exact size_one rfl | exact take_size (fun _ => rfl) | exact dsize_one rfl | exact dsize_map (fun _ => rfl) | exact dsize_its (fun _ => rfl) | (simp only [LENS]; omega) | (simp; done) | decide))
    | (intro hfact)
    | ((with_reducible apply Drawn.by0); (focus kernel_rfl); intro hfact; (try simp only [List.mem_append, List.mem_cons, List.not_mem_nil, or_false, false_or, or_assoc, forall_eq_or_imp, forall_eq, false_implies, implies_true, forall_const, and_true, true_and] at hfact))
    | (refine CallWp.mk ⟨_, cp, ?_⟩; rintro _ _ ⟨rfl, rfl⟩)
    | ((try dsimp only); rw [hw]))
  all_goals (try (conv => whnf))
  all_goals (refine Done.mk ⟨?_, by kernel_rfl⟩ (by kernel_rfl))
  all_goals (try simp only [hw])
  all_goals (try simp only [hw, *, if_true, if_false, Bool.false_eq_true, Bool.true_eq_false, Bool.not_true, Bool.not_false, decide_true, decide_false, not_true_eq_false, not_false_eq_true, ne_eq, reduceIte])
  all_goals (try simp only [resD, frzSV, I.put, List.replicate_succ, List.replicate_zero, toIs, D.toI, toIs_its, toIs_set, List.map_cons, List.map_nil, List.set_cons_zero, List.set_cons_succ, mkSt, allIt, List.map_set, Int.toNat_natCast])
  all_goals (try rfl)
theorem spec_do_old (r : Roll) (hs : r.Small) (c : Cmd) (hrev : -9223372036854775808 ≤ r.rev ∧ r.rev ≤ 9223372036854775806) (hk : 4 ≤ c.kind ∧ c.kind ≤ 14) (hm : 1099511627776 ≤ r.rev) : Fn Try.prog F_exchequerref15_Do [.v r.toI, .v c.toI] (Is (.tup [.i r.toI, .i (.int .i64 17)]) [.no, .no]) := by
  refine Fn.isF (x := [r.toI, .int .i64 17]) ?_
  refine ofd_exchequerref15_Do' ?_ (by simp)
  have cp := spec_copyN r hs
  have hw : IntKind.i64.wrap (r.rev + 1) = r.rev + 1 := wrap_id (by omega)
  repeat' ((conv => whnf); first
    | (refine And.intro (fun hb => ?_) (fun hb => ?_) <;> first | (exact absurd hb (by first | assumption | decide)) | (with_reducible exact absurd hb Bool.false_ne_true) | (with_reducible exact absurd hb.symm Bool.false_ne_true) | (exfalso; first | (simp only [LENS] at hb <;> omega) | omega) | ((try rw [hb]); (try simp only [NRMS] at hb); (try subst hb)))
    | (refine Exists.intro ?_ ?_; focus (and_intros <;> first | omega | exact rfl | assumption | (intro _ hh; cases hh; done) | exact all_size (by rfl) | exact size_map (fun _ => rfl) | exact size_one rfl | exact take_size (fun _ => rfl) | exact dsize_one rfl | exact dsize_map (fun _ => rfl) | exact dsize_its (fun _ => rfl) | (simp only [LENS]; omega) | (simp; done) | decide))
    | (intro hfact)
    | ((with_reducible apply Drawn.by0); (focus kernel_rfl); intro hfact; (try simp only [List.mem_append, List.mem_cons, List.not_mem_nil, or_false, false_or, or_assoc, forall_eq_or_imp, forall_eq, false_implies, implies_true, forall_const, and_true, true_and] at hfact))
    | (refine CallWp.mk ⟨_, cp, ?_⟩; rintro _ _ ⟨rfl, rfl⟩)
    | ((try dsimp only); rw [hw]))
  all_goals (try (conv => whnf))
  all_goals (refine Done.mk ⟨?_, by kernel_rfl⟩ (by kernel_rfl))
  all_goals (try simp only [hw])
  all_goals (try simp only [hw, *, if_true, if_false, Bool.false_eq_true, Bool.true_eq_false, Bool.not_true, Bool.not_false, decide_true, decide_false, not_true_eq_false, not_false_eq_true, ne_eq, reduceIte])
  all_goals (try simp only [resD, frzSV, I.put, List.replicate_succ, List.replicate_zero, toIs, D.toI, toIs_its, toIs_set, List.map_cons, List.map_nil, List.set_cons_zero, List.set_cons_succ, mkSt, allIt, List.map_set, Int.toNat_natCast])
  all_goals (try rfl)
theorem spec_do_have (r : Roll) (hs : r.Small) (c : Cmd) (hrev : -9223372036854775808 ≤ r.rev ∧ r.rev < 1099511627776) (hk : c.kind = 13 ∨ c.kind = 14) : Fn Try.prog F_exchequerref15_Do [.v r.toI, .v c.toI] (Is (.tup [.i (haveM r c).1.toI, .i (.int .i64 (haveM r c).2)]) [.no, .no]) := by
  refine Fn.isF (x := [(haveM r c).1.toI, .int .i64 (haveM r c).2]) ?_
  refine ofd_exchequerref15_Do' ?_ (by simp)
  have cp := spec_copyN r hs
  have hw : IntKind.i64.wrap (r.rev + 1) = r.rev + 1 := wrap_id (by omega)
  have hb1 := hs.hT
  have hb2 := hs.hU
  have hb3 := hs.hX
  have t1 := spec_TenantAt r c.other (by omega)
  have u1 := spec_UserAt r c.name (by omega)
  have x1 := spec_RoleAt r c.name (by omega)
  have hv := spec_having r hs c
  repeat' ((conv => whnf); first
    | (refine And.intro (fun hb => ?_) (fun hb => ?_) <;> first | (exact absurd hb (by first | assumption | decide)) | (with_reducible exact absurd hb Bool.false_ne_true) | (with_reducible exact absurd hb.symm Bool.false_ne_true) | (exfalso; first | (simp only [LENS] at hb <;> omega) | omega) | ((try rw [hb]); (try simp only [NRMS] at hb); (try subst hb)))
    | (refine Exists.intro ?_ ?_; focus (and_intros <;> first | omega | exact rfl | assumption | (intro _ hh; cases hh; done) | exact all_size (by rfl) | exact size_map (fun _ => rfl) | exact size_one rfl | exact take_size (fun _ => rfl) | exact dsize_one rfl | exact dsize_map (fun _ => rfl) | exact dsize_its (fun _ => rfl) | (simp only [LENS]; omega) | (simp; done) | decide))
    | (intro hfact)
    | ((with_reducible apply Drawn.by0); (focus kernel_rfl); intro hfact; (try simp only [List.mem_append, List.mem_cons, List.not_mem_nil, or_false, false_or, or_assoc, forall_eq_or_imp, forall_eq, false_implies, implies_true, forall_const, and_true, true_and] at hfact))
    | (refine CallWp.mk ⟨_, cp, ?_⟩; rintro _ _ ⟨rfl, rfl⟩)
    | ((try dsimp only); rw [hw])
    | (refine CallIs.mk ⟨_, _, t1, ?_⟩)
    | (refine CallIs.mk ⟨_, _, u1, ?_⟩)
    | (refine CallIs.mk ⟨_, _, x1, ?_⟩)
    | (refine CallWp.mk ⟨_, hv, ?_⟩; rintro _ _ ⟨rfl, rfl⟩))
  all_goals (try (conv => whnf))
  all_goals (refine Done.mk ⟨?_, by kernel_rfl⟩ (by kernel_rfl))
  all_goals (try simp only [hw])
  all_goals (try simp only [hw, *, if_true, if_false, Bool.false_eq_true, Bool.true_eq_false, Bool.not_true, Bool.not_false, decide_true, decide_false, not_true_eq_false, not_false_eq_true, ne_eq, reduceIte])
  all_goals (try simp only [resD, frzSV, I.put, List.replicate_succ, List.replicate_zero, toIs, D.toI, toIs_its, toIs_set, List.map_cons, List.map_nil, List.set_cons_zero, List.set_cons_succ, mkSt, allIt, List.map_set, Int.toNat_natCast])
  all_goals (try rfl)
end Go.Ab


set_option maxRecDepth 100000
set_option maxHeartbeats 40000000
namespace Go.Ab
open Go.Proofs

theorem spec_copyF (r : Roll) (hs : r.Small) : Fn Try.prog F_exchequerref15_Copy [.v r.toI] (Is (.v r.toI) [.no]) := by
  refine (spec_copyN r hs).frz ?_
  rintro _ _ ⟨rfl, rfl⟩
  exact ⟨_, by simp only [frzSV, D.toI, toIs, toIs_its, rols_toI], rfl, rfl⟩
theorem take_size {α : Type} {f : α → I} {l : List α} {n i j : Nat} (h : ∀ a, (f a).size = n) : ∀ u ∈ ((l.map f).take j).drop i, u.size = n := fun u hu =>
  size_map h u (List.mem_of_mem_take (List.mem_of_mem_drop hu))
theorem dsize_of {l : List I} {n : Nat} (h : ∀ u ∈ l, u.size = n) : ∀ u ∈ l.map D.it, u.size = n := by
  intro u hu
  obtain ⟨x, hx, rfl⟩ := List.mem_map.1 hu
  exact h x hx
def leaveM (r : Roll) (c : Cmd) : Roll × Int :=
  if r.usrAt c.name < 0 then (r, 16)
  else if c.name = [114, 111, 111, 116] then (r, 1)
  else ({ r with rev := r.rev + 1, usrs := r.usrs.take (r.usrAt c.name).toNat ++ r.usrs.drop ((r.usrAt c.name).toNat + 1) }, 0)
theorem spec_do_leave (r : Roll) (hs : r.Small) (c : Cmd) (hrev : -9223372036854775808 ≤ r.rev ∧ r.rev < 1099511627776) (hk : c.kind = 8) : Fn Try.prog F_exchequerref15_Do [.v r.toI, .v c.toI] (Is (.tup [.i (leaveM r c).1.toI, .i (.int .i64 (leaveM r c).2)]) [.no, .no]) := by
  refine Fn.isF (x := [(leaveM r c).1.toI, .int .i64 (leaveM r c).2]) ?_
  refine ofd_exchequerref15_Do' ?_ (by simp)
  have cp := spec_copyF r hs
  have hw : IntKind.i64.wrap (r.rev + 1) = r.rev + 1 := wrap_id (by omega)
  have hb1 := hs.hT
  have hb2 := hs.hU
  have hb3 := hs.hX
  have t1 := spec_TenantAt r c.other (by omega)
  have u1 := spec_UserAt r c.name (by omega)
  have x1 := spec_RoleAt r c.name (by omega)
  rcases findAt_bound (fun t : Usr => decide (t.name = c.name)) 0 r.usrs with h | ⟨j, h, hj, u, hju, hun⟩
  · have h' : r.usrAt c.name = -1 := h
    rw [h'] at u1
    repeat' ((conv => whnf); first
      | (refine And.intro (fun hb => ?_) (fun hb => ?_) <;> first | (exact absurd hb (by first | assumption | decide)) | (with_reducible exact absurd hb Bool.false_ne_true) | (with_reducible exact absurd hb.symm Bool.false_ne_true) | (exfalso; first | (simp only [LENS] at hb <;> omega) | omega) | ((try rw [hb]); (try simp only [NRMS] at hb); (try subst hb)))
      | (refine Exists.intro ?_ ?_; focus (and_intros <;> first | omega | exact rfl | assumption | (intro _ hh; cases hh; done) | exact all_size (by rfl) | exact size_map (fun _ => rfl) | exact size_one rfl | exact take_size (fun _ => rfl) | exact dsize_one rfl | exact dsize_map (fun _ => rfl) | exact dsize_its (fun _ => rfl) | (simp only [LENS]; omega) | (simp; done) | decide))
      | (intro hfact)
      | ((with_reducible apply Drawn.by0); (focus kernel_rfl); intro hfact; (try simp only [List.mem_append, List.mem_cons, List.not_mem_nil, or_false, false_or, or_assoc, forall_eq_or_imp, forall_eq, false_implies, implies_true, forall_const, and_true, true_and] at hfact))
      | (refine CallWp.mk ⟨_, cp, ?_⟩; rintro _ _ ⟨rfl, rfl⟩)
      | ((try dsimp only); rw [hw])
      | (refine CallIs.mk ⟨_, _, t1, ?_⟩)
      | (refine CallIs.mk ⟨_, _, u1, ?_⟩)
      | (refine CallIs.mk ⟨_, _, x1, ?_⟩))
    all_goals (try (conv => whnf))
    all_goals (refine Done.mk ⟨?_, by kernel_rfl⟩ (by kernel_rfl))
    all_goals (try simp only [leaveM, h'])
    all_goals (try simp only [leaveM, h', *, if_true, if_false, Bool.false_eq_true, Bool.true_eq_false, Bool.not_true, Bool.not_false, decide_true, decide_false, not_true_eq_false, not_false_eq_true, ne_eq, reduceIte])
    all_goals (try simp only [resD, frzSV, I.put, List.replicate_succ, List.replicate_zero, toIs, D.toI, toIs_its, toIs_set, List.map_cons, List.map_nil, List.set_cons_zero, List.set_cons_succ, mkSt, allIt, List.map_set, Int.toNat_natCast])
    all_goals (try rfl)
  · have h' : r.usrAt c.name = (j : Int) := by rw [show r.usrAt c.name = ((0 + j : Nat) : Int) from h, Nat.zero_add]
    rw [h'] at u1
    have hw1 : IntKind.i64.wrap ((j : Int) + 1) = ((j + 1 : Nat) : Int) := wrap_succ hj (by simp only [maxLen]; omega)
    repeat' ((conv => whnf); first
      | (refine And.intro (fun hb => ?_) (fun hb => ?_) <;> first | (exact absurd hb (by first | assumption | decide)) | (with_reducible exact absurd hb Bool.false_ne_true) | (with_reducible exact absurd hb.symm Bool.false_ne_true) | (exfalso; first | (simp only [LENS] at hb <;> omega) | omega) | ((try rw [hb]); (try simp only [NRMS] at hb); (try subst hb)))
      | (refine Exists.intro ?_ ?_; focus (and_intros <;> first | omega | exact rfl | assumption | (intro _ hh; cases hh; done) | exact all_size (by rfl) | exact size_map (fun _ => rfl) | exact size_one rfl | exact take_size (fun _ => rfl) | exact dsize_one rfl | exact dsize_map (fun _ => rfl) | exact dsize_its (fun _ => rfl) | (simp only [LENS]; omega) | (simp; done) | decide))
      | (intro hfact)
      | ((with_reducible apply Drawn.by0); (focus kernel_rfl); intro hfact; (try simp only [List.mem_append, List.mem_cons, List.not_mem_nil, or_false, false_or, or_assoc, forall_eq_or_imp, forall_eq, false_implies, implies_true, forall_const, and_true, true_and] at hfact))
      | (refine CallWp.mk ⟨_, cp, ?_⟩; rintro _ _ ⟨rfl, rfl⟩)
      | ((try dsimp only); rw [hw])
      | (refine CallIs.mk ⟨_, _, t1, ?_⟩)
      | (refine CallIs.mk ⟨_, _, u1, ?_⟩)
      | (refine CallIs.mk ⟨_, _, x1, ?_⟩)
      | ((try dsimp only); rw [hw1])
      | ((first | with_reducible apply wq_eq | with_reducible apply wz_eq | ((first | with_reducible apply at_eyeP | with_reducible apply at_eyeH); (focus rfl))); (focus (simp only [D.at, D.put, D.kid, D.setKid, List.cons_append, List.nil_append, List.append, List.getElem?_cons_zero, List.getElem?_cons_succ, Int.toNat_natCast, List.getElem?_set_self', Option.map_eq_map, Option.map_some, List.set_cons_zero, List.set_cons_succ, List.set_set, Function.const_apply, List.map_cons, List.map_nil, mkSt, allIt, D.toI, toIs, toIs_its, List.getElem?_map, List.length_map, List.length_set, hju] <;> exact rfl)); (try (focus exact rfl))))
    all_goals (try (conv => whnf))
    all_goals clear h
    all_goals (refine Done.mk ⟨?_, by kernel_rfl⟩ (by kernel_rfl))
    all_goals (try simp only [leaveM, h'])
    all_goals (try simp only [leaveM, h', *, if_true, if_false, Bool.false_eq_true, Bool.true_eq_false, Bool.not_true, Bool.not_false, decide_true, decide_false, not_true_eq_false, not_false_eq_true, ne_eq, reduceIte])
    all_goals (try simp only [resD, frzSV, I.put, List.replicate_succ, List.replicate_zero, toIs, D.toI, toIs_its, toIs_set, List.map_cons, List.map_nil, List.set_cons_zero, List.set_cons_succ, mkSt, allIt, ← List.map_take, ← List.map_drop, ← List.map_append, ← List.map_set, List.nil_append, List.length_map, List.take_length, List.drop_zero, Int.toNat_zero, Int.toNat_natCast, Roll.toI])
    all_goals (try simp only [Roll.toI])
    all_goals (try rfl)
end Go.Ab

