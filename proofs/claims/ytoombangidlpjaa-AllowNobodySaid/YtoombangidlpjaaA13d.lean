/- One text of the proof whose last text says what is proved. -/
import Derived.Test.YtoombangidlpjaaA13c
set_option linter.unusedVariables false
set_option linter.unusedSimpArgs false

set_option maxRecDepth 100000
set_option maxHeartbeats 40000000
namespace Go.Ab
open Go.Proofs

abbrev Roll.toU (r : Roll) : D := .st [.it (.int .i64 r.rev), .vec T_api_Tenant 3 ((r.tens.map Ten.toI).map D.it), .vec T_api_User 5 ((r.usrs.map Usr.toI).map D.it), .it (.list (r.rols.map Rol.toI))]
theorem spec_copyU (r : Roll) (hs : r.Small) : Fn Try.prog F_exchequerref15_Copy [.v r.toI] (Is (.own [] r.toU) [.no]) := by
  refine (spec_copyN r hs).part ?_
  rintro _ _ ⟨rfl, rfl⟩
  refine ⟨[], _, r.toU, rfl, ?_, rfl, rfl⟩
  simp only [Frz, Frzs, D.toI, true_and, and_true, rols_toI]
  exact ⟨frzs_its _, frzs_its _⟩
def unRole (n : Str) (u : Usr) : Usr := { u with roles := u.roles.filter fun e => !decide (e = n) }
def dropM (r : Roll) (c : Cmd) : Roll × Int :=
  if r.rolAt c.name < 0 then (r, 16)
  else ({ r with rev := r.rev + 1, rols := r.rols.take (r.rolAt c.name).toNat ++ r.rols.drop ((r.rolAt c.name).toNat + 1), usrs := r.usrs.map (unRole c.name) }, 0)
/-- The users, of whom the first k have let a role go. -/
def partU (n : Str) (l : List Usr) (k : Nat) : List Usr := (l.take k).map (unRole n) ++ l.drop k
theorem partU_get {n : Str} {l : List Usr} {k : Nat} {u : Usr} (h : l[k]? = some u) : (partU n l k)[k]? = some u := by
  have hk := (List.getElem?_eq_some_iff.1 h).1
  unfold partU
  rw [List.getElem?_append_right (by simp; omega)]
  simp [Nat.min_eq_left (Nat.le_of_lt hk), h]
theorem partU_set {n : Str} {l : List Usr} {k : Nat} {u : Usr} (h : l[k]? = some u) : (partU n l k).set k (unRole n u) = partU n l (k + 1) := by
  have hk := (List.getElem?_eq_some_iff.1 h).1
  have hu : l[k] = u := by rw [List.getElem?_eq_getElem hk] at h; simpa using h
  unfold partU
  rw [List.set_append_right _ _ (by simp; omega)]
  simp only [List.length_map, List.length_take, Nat.min_eq_left (Nat.le_of_lt hk), Nat.sub_self]
  rw [List.drop_eq_getElem_cons hk, List.set_cons_zero, List.take_add_one, h]
  simp
theorem partU_length {n : Str} {l : List Usr} {k : Nat} : (partU n l k).length = l.length := by
  unfold partU; simp; omega
theorem partU_all {n : Str} {l : List Usr} : partU n l l.length = l.map (unRole n) := by
  unfold partU; simp
theorem spec_do_drop (r : Roll) (hs : r.Small) (c : Cmd) (hrev : -9223372036854775808 ≤ r.rev ∧ r.rev < 1099511627776) (hk : c.kind = 10) : Fn Try.prog F_exchequerref15_Do [.v r.toI, .v c.toI] (Is (.tup [.i (dropM r c).1.toI, .i (.int .i64 (dropM r c).2)]) [.no, .no]) := by
  refine Fn.isF (x := [(dropM r c).1.toI, .int .i64 (dropM r c).2]) ?_
  refine ofd_exchequerref15_Do' ?_ (by simp)
  have cp := spec_copyU r hs
  have hw : IntKind.i64.wrap (r.rev + 1) = r.rev + 1 := wrap_id (by omega)
  have hb1 := hs.hT
  have hb2 := hs.hU
  have hb3 := hs.hX
  have t1 := spec_TenantAt r c.other (by omega)
  have u1 := spec_UserAt r c.name (by omega)
  have x1 := spec_RoleAt r c.name (by omega)
  rcases findAt_bound (fun t : Rol => decide (t.name = c.name)) 0 r.rols with h | ⟨j, h, hj, x, hju, hun⟩
  · have h' : r.rolAt c.name = -1 := h
    rw [h'] at x1
    repeat' ((conv => whnf); first
      | (refine And.intro (fun hb => ?_) (fun hb => ?_) <;> first | (exact absurd hb (by first | assumption | decide)) | (with_reducible exact absurd hb Bool.false_ne_true) | (with_reducible exact absurd hb.symm Bool.false_ne_true) | (exfalso; first | (simp only [LENS] at hb <;> omega) | omega) | ((try rw [hb]); (try simp only [NRMS] at hb); (try subst hb)))
      | (refine Exists.intro ?_ ?_; focus (and_intros <;> first | omega | exact rfl | assumption | (intro _ hh; cases hh; done) | exact all_size (by rfl) | exact size_map (fun _ => rfl) | exact size_one rfl | exact take_size (fun _ => rfl) | exact dsize_one rfl | exact dsize_map (fun _ => rfl) | exact dsize_its (fun _ => rfl) | (simp only [LENS]; omega) | (simp; done) | decide))
      | (intro hfact)
      | ((with_reducible apply Drawn.by0); (focus kernel_rfl); intro hfact; (try simp only [List.mem_append, List.mem_cons, List.not_mem_nil, or_false, false_or, or_assoc, forall_eq_or_imp, forall_eq, false_implies, implies_true, forall_const, and_true, true_and] at hfact))
      | (refine CallWp.mk ⟨_, cp, ?_⟩; rintro _ _ ⟨rfl, rfl⟩)
      | ((try dsimp only); rw [hw])
      | (refine CallIs.mk ⟨_, _, t1, ?_⟩)
      | (refine CallIs.mk ⟨_, _, u1, ?_⟩)
      | (refine CallIs.mk ⟨_, _, x1, ?_⟩))
    all_goals (try (conv => whnf))
    all_goals (refine Done.mk ⟨?_, by kernel_rfl⟩ (by kernel_rfl))
    all_goals (try simp only [dropM, h'])
    all_goals (try simp only [dropM, h', *, if_true, if_false, Bool.false_eq_true, Bool.true_eq_false, Bool.not_true, Bool.not_false, decide_true, decide_false, not_true_eq_false, not_false_eq_true, ne_eq, reduceIte])
    all_goals (try simp only [resD, frzSV, I.put, List.replicate_succ, List.replicate_zero, toIs, D.toI, toIs_its, toIs_set, List.map_cons, List.map_nil, List.set_cons_zero, List.set_cons_succ, mkSt, allIt, List.map_set, Int.toNat_natCast])
    all_goals (try rfl)
  · have h' : r.rolAt c.name = (j : Int) := by rw [show r.rolAt c.name = ((0 + j : Nat) : Int) from h, Nat.zero_add]
    rw [h'] at x1
    have hw1 : IntKind.i64.wrap ((j : Int) + 1) = ((j + 1 : Nat) : Int) := wrap_succ hj (by simp only [maxLen]; omega)
    repeat' ((conv => whnf); first
      | (refine And.intro (fun hb => ?_) (fun hb => ?_) <;> first | (exact absurd hb (by first | assumption | decide)) | (with_reducible exact absurd hb Bool.false_ne_true) | (with_reducible exact absurd hb.symm Bool.false_ne_true) | (exfalso; first | (simp only [LENS] at hb <;> omega) | omega) | ((try rw [hb]); (try simp only [NRMS] at hb); (try subst hb)))
      | (refine Exists.intro ?_ ?_; focus (and_intros <;> first | omega | exact rfl | assumption | (intro _ hh; cases hh; done) | exact all_size (by rfl) | exact size_map (fun _ => rfl) | exact size_one rfl | exact take_size (fun _ => rfl) | exact dsize_one rfl | exact dsize_map (fun _ => rfl) | exact dsize_its (fun _ => rfl) | (simp only [LENS]; omega) | (simp; done) | decide))
      | (intro hfact)
      | ((with_reducible apply Drawn.by0); (focus kernel_rfl); intro hfact; (try simp only [List.mem_append, List.mem_cons, List.not_mem_nil, or_false, false_or, or_assoc, forall_eq_or_imp, forall_eq, false_implies, implies_true, forall_const, and_true, true_and] at hfact))
      | (refine CallWp.mk ⟨_, cp, ?_⟩; rintro _ _ ⟨rfl, rfl⟩)
      | ((try dsimp only); rw [hw])
      | (refine CallIs.mk ⟨_, _, t1, ?_⟩)
      | (refine CallIs.mk ⟨_, _, u1, ?_⟩)
      | (refine CallIs.mk ⟨_, _, x1, ?_⟩)
      | ((try dsimp only); rw [hw1]))
    all_goals (try (conv => whnf))
    obtain ⟨RL, hRL⟩ : ∃ RL : List I, RL = ([] ++ List.drop (Int.toNat 0) (List.take (Int.toNat (j : Int)) (r.rols.map Rol.toI)) ++ List.drop (Int.toNat ((j + 1 : Nat) : Int)) (List.take (Int.toNat ((r.rols.map Rol.toI).length : Int)) (r.rols.map Rol.toI))) := ⟨_, rfl⟩
    refine LoopWq.by (X := Nat) (fun k => [(6, .own [] (.ptr (.st [.it (.int .i64 (r.rev + 1)), .vec T_api_Tenant 3 ((r.tens.map Ten.toI).map D.it), .vec T_api_User 5 (((partU c.name r.usrs k).map Usr.toI).map D.it), .vec T_api_Role 3 (RL.map D.it)]))), (12, .v (.int .i64 k))]) (fun k => k ≤ r.usrs.length) (fun k => r.usrs.length - k)
      0 (by rw [hRL]; kernel_rfl) (Nat.zero_le _) ?_
    · intro k hkl
      have hpl := @partU_length c.name r.usrs k
      rcases Nat.lt_or_ge k r.usrs.length with hlt | hge
      · obtain ⟨u, hu⟩ : ∃ u, r.usrs[k]? = some u := ⟨_, List.getElem?_eq_getElem hlt⟩
        have hul := hs.hR u (List.mem_of_getElem? hu)
        have hpg := @partU_get c.name r.usrs k u hu
        have g2 := spec_without u.roles c.name (by omega)
        have hps := @partU_set c.name r.usrs k u hu
        obtain ⟨U, hU⟩ : ∃ U, U = partU c.name r.usrs k := ⟨_, rfl⟩
        rw [← hU] at hpl hpg hps ⊢
        repeat' ((conv => whnf); first
          | (refine And.intro (fun hb => ?_) (fun hb => ?_) <;> first | (exact absurd hb (by first | assumption | decide)) | (with_reducible exact absurd hb Bool.false_ne_true) | (with_reducible exact absurd hb.symm Bool.false_ne_true) | (exfalso; first | (simp only [LENS] at hb <;> omega) | omega) | ((try rw [hb]); (try simp only [NRMS] at hb); (try subst hb)))
          | (refine Exists.intro ?_ ?_; focus (and_intros <;> first | omega | exact rfl | assumption | (intro _ hh; cases hh; done) | exact all_size (by rfl) | exact size_map (fun _ => rfl) | exact size_one rfl | exact take_size (fun _ => rfl) | exact dsize_one rfl | exact dsize_map (fun _ => rfl) | exact dsize_its (fun _ => rfl) | (simp only [LENS]; omega) | (simp; done) | decide))
          | (intro hfact)
          | ((with_reducible apply Drawn.by0); (focus kernel_rfl); intro hfact; (try simp only [List.mem_append, List.mem_cons, List.not_mem_nil, or_false, false_or, or_assoc, forall_eq_or_imp, forall_eq, false_implies, implies_true, forall_const, and_true, true_and] at hfact))
          | (refine CallIs.mk ⟨_, _, g2, ?_⟩)
          | ((first | with_reducible apply wq_eq | with_reducible apply wz_eq | ((first | with_reducible apply at_eyeP | with_reducible apply at_eyeH); (focus rfl))); (focus (simp only [D.at, D.put, D.kid, D.setKid, List.cons_append, List.nil_append, List.append, List.getElem?_cons_zero, List.getElem?_cons_succ, Int.toNat_natCast, List.getElem?_set_self', Option.map_eq_map, Option.map_some, List.set_cons_zero, List.set_cons_succ, List.set_set, Function.const_apply, List.map_cons, List.map_nil, mkSt, allIt, D.toI, toIs, toIs_its, List.getElem?_map, List.length_map, List.length_set, hpg] <;> exact rfl)); (try (focus exact rfl))))
        all_goals (try (conv => whnf))
        refine Round.by (k + 1) ?_ (by omega) (by omega)
        have hwk : IntKind.i64.wrap ((k : Int) + 1) = ((k + 1 : Nat) : Int) := wrap_succ hlt (by simp only [maxLen]; omega)
        try dsimp only
        rw [hwk, ← hps, List.map_set, List.map_set]
        show norm _ _ = upd _ _
        kernel_rfl
      · have : k = r.usrs.length := by omega
        subst this
        repeat' ((conv => whnf); first
          | (refine And.intro (fun hb => ?_) (fun hb => ?_) <;> first | (exact absurd hb (by first | assumption | decide)) | (with_reducible exact absurd hb Bool.false_ne_true) | (with_reducible exact absurd hb.symm Bool.false_ne_true) | (exfalso; first | (simp only [LENS] at hb <;> omega) | omega) | ((try rw [hb]); (try simp only [NRMS] at hb); (try subst hb)))
          | (refine Exists.intro ?_ ?_; focus (and_intros <;> first | omega | exact rfl | assumption | (intro _ hh; cases hh; done) | exact all_size (by rfl) | exact size_map (fun _ => rfl) | exact size_one rfl | exact take_size (fun _ => rfl) | exact dsize_one rfl | exact dsize_map (fun _ => rfl) | exact dsize_its (fun _ => rfl) | (simp only [LENS]; omega) | (simp; done) | decide))
          | (intro hfact)
          | ((with_reducible apply Drawn.by0); (focus kernel_rfl); intro hfact; (try simp only [List.mem_append, List.mem_cons, List.not_mem_nil, or_false, false_or, or_assoc, forall_eq_or_imp, forall_eq, false_implies, implies_true, forall_const, and_true, true_and] at hfact)))
        all_goals (try (conv => whnf))
        rw [partU_all]
        simp only [Int.toNat_natCast, ← List.map_take, ← List.map_drop, ← List.map_append, List.nil_append, List.length_map, List.take_length, List.drop_zero, Int.toNat_zero] at hRL
        subst hRL
        all_goals (refine Done.mk ⟨?_, by kernel_rfl⟩ (by kernel_rfl))
        all_goals (try simp only [dropM, h'])
        all_goals (try simp only [dropM, h', *, if_true, if_false, Bool.false_eq_true, Bool.true_eq_false, Bool.not_true, Bool.not_false, decide_true, decide_false, not_true_eq_false, not_false_eq_true, ne_eq, reduceIte])
        all_goals (try simp only [resD, frzSV, I.put, List.replicate_succ, List.replicate_zero, toIs, D.toI, toIs_its, toIs_set, List.map_cons, List.map_nil, List.set_cons_zero, List.set_cons_succ, mkSt, allIt, ← List.map_take, ← List.map_drop, ← List.map_append, ← List.map_set, List.nil_append, List.length_map, List.take_length, List.drop_zero, Int.toNat_zero, Int.toNat_natCast, Roll.toI])
        all_goals (try simp only [Roll.toI])
        all_goals (try rfl)
end Go.Ab

