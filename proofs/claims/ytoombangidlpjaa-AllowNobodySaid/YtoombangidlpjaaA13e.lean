/- One text of the proof whose last text says what is proved. -/
import Derived.Test.YtoombangidlpjaaA13d
import Derived.Test.YtoombangidlpjaaR20
set_option linter.unusedVariables false
set_option linter.unusedSimpArgs false
set_option maxRecDepth 100000
set_option maxHeartbeats 40000000
namespace Go.Ab
open Go.Proofs

theorem mstep_length (st : List Sp × Bool) (e : Str × Bool) : (mstep st e).1.length ≤ st.1.length + 1 := by
  unfold mstep
  split
  · split
    · simp
    · simp
  · split
    · cases st.1.getLast? <;> simp
    · simp
theorem mfold_length : ∀ (l : List (Str × Bool)) (st : List Sp × Bool), (l.foldl mstep st).1.length ≤ st.1.length + l.length
  | [], st => Nat.le_refl _
  | e :: l, st => by
    have h1 := mfold_length l (mstep st e)
    have h2 := mstep_length st e
    simp only [List.foldl_cons, List.length_cons]
    omega
theorem rMinus1_length (g s : Sp) : (rMinus [g] s).length ≤ 5 := by
  unfold rMinus madeM
  have h1 := mfold_length ((endsM ([g] ++ [s])).zip ((endsM ([g] ++ [s])).map (rMinP [g] s))) ([], false)
  have h2 := endsM_length ([g] ++ [s])
  simp at h1 h2 ⊢
  omega
def foldStep {α S : Type} (f : S → α → S) (s : S) (e : α) : S ⊕ S := .inl (f s e)
def foldFin {S : Type} (s : S) : S := s
theorem fold_run {α S : Type} (f : S → α → S) : ∀ (l : List α) (s : S), runL (foldStep f) foldFin l s = l.foldl f s
  | [], _ => rfl
  | a :: r, s => by rw [runL_cons]; simp [foldStep, aft, fold_run f r]
def addG (g : Gra) (out : List Gra) (sp : Sp) : List Gra := if out.any (fun e => decide (e = ⟨sp, g.r, g.w⟩)) then out else out ++ [⟨sp, g.r, g.w⟩]
def revOne (s : Sp) (out : List Gra) (g : Gra) : List Gra := (rMinus [g.sp] s).foldl (addG g) out
def revM (l : List Gra) (s : Sp) : List Gra := l.foldl (revOne s) []
theorem addG_length (g : Gra) (out : List Gra) (sp : Sp) : (addG g out sp).length ≤ out.length + 1 := by
  unfold addG; split <;> simp
theorem addGs_length (g : Gra) : ∀ (l : List Sp) (out : List Gra), (l.foldl (addG g) out).length ≤ out.length + l.length
  | [], _ => Nat.le_refl _
  | e :: l, out => by
    have h1 := addGs_length g l (addG g out e)
    have h2 := addG_length g out e
    simp only [List.foldl_cons, List.length_cons]
    omega
theorem revOne_length (s : Sp) (out : List Gra) (g : Gra) : (revOne s out g).length ≤ out.length + 5 := by
  have h1 := addGs_length g (rMinus [g.sp] s) out
  have h2 := rMinus1_length g.sp s
  unfold revOne
  omega
def revokeM (r : Roll) (c : Cmd) : Roll × Int :=
  if decide (SpR c.grant.sp) = false then (r, 1)
  else if r.rolAt c.name < 0 then (r, 16)
  else match r.rols[(r.rolAt c.name).toNat]? with
  | none => (r, 16)
  | some x =>
    if 8 < ((revM x.grants c.grant.sp).length : Int) then (r, 17)
    else ({ r with rev := r.rev + 1, rols := r.rols.set (r.rolAt c.name).toNat { x with grants := revM x.grants c.grant.sp } }, 0)
theorem spec_do_revoke (r : Roll) (hs : r.Small) (c : Cmd) (hrev : -9223372036854775808 ≤ r.rev ∧ r.rev < 1099511627776) (hk12 : c.kind = 12) : Fn Try.prog F_exchequerref15_Do [.v r.toI, .v c.toI] (Is (.tup [.i (revokeM r c).1.toI, .i (.int .i64 (revokeM r c).2)]) [.no, .no]) := by
  refine Fn.isF (x := [(revokeM r c).1.toI, .int .i64 (revokeM r c).2]) ?_
  refine ofd_exchequerref15_Do' ?_ (by simp)
  have cp := spec_copyN r hs
  have hw : IntKind.i64.wrap (r.rev + 1) = r.rev + 1 := wrap_id (by omega)
  have hb1 := hs.hT
  have hb2 := hs.hU
  have hb3 := hs.hX
  have t1 := spec_TenantAt r c.other (by omega)
  have u1 := spec_UserAt r c.name (by omega)
  have x1 := spec_RoleAt r c.name (by omega)
  have s1 := spec_srright c.grant.sp
  rcases findAt_bound (fun t : Rol => decide (t.name = c.name)) 0 r.rols with h | ⟨j, h, hj, x, hju, hun⟩
  · have h' : r.rolAt c.name = -1 := h
    rw [h'] at x1
    repeat' ((conv => whnf); first
      | (refine And.intro (fun hb => ?_) (fun hb => ?_) <;> first | (exact absurd hb (by first | assumption | decide)) | (with_reducible exact absurd hb Bool.false_ne_true) | (with_reducible exact absurd hb.symm Bool.false_ne_true) | (exfalso; first | (simp only [LENS] at hb <;> omega) | omega) | ((try rw [hb]); (try simp only [NRMS] at hb); (try subst hb)))
      | (refine Exists.intro ?_ ?_; focus (and_intros <;> first | omega | exact rfl | assumption | (intro _ hh; cases hh; done) | exact all_size (by rfl) | exact size_map (fun _ => rfl) | exact size_one rfl | exact take_size (fun _ => rfl) | exact dsize_one rfl | exact dsize_map (fun _ => rfl) | exact dsize_its (fun _ => rfl) | (simp only [LENS]; omega) | (simp; done) | decide))
      | (intro hfact)
      | ((with_reducible apply Drawn.by0); (focus kernel_rfl); intro hfact; (try simp only [List.mem_append, List.mem_cons, List.not_mem_nil, or_false, false_or, or_assoc, forall_eq_or_imp, forall_eq, false_implies, implies_true, forall_const, and_true, true_and] at hfact))
      | (refine CallWp.mk ⟨_, cp, ?_⟩; rintro _ _ ⟨rfl, rfl⟩)
      | ((try dsimp only); rw [hw])
      | (refine CallIs.mk ⟨_, _, t1, ?_⟩)
      | (refine CallIs.mk ⟨_, _, u1, ?_⟩)
      | (refine CallIs.mk ⟨_, _, x1, ?_⟩)
      | (refine CallWp.mk ⟨_, s1, ?_⟩; rintro _ _ ⟨rfl, rfl⟩))
    all_goals (try (conv => whnf))
    all_goals (refine Done.mk ⟨?_, by kernel_rfl⟩ (by kernel_rfl))
    all_goals (try simp only [revokeM, h'])
    all_goals (try simp only [revokeM, h', *, if_true, if_false, Bool.false_eq_true, Bool.true_eq_false, Bool.not_true, Bool.not_false, decide_true, decide_false, not_true_eq_false, not_false_eq_true, ne_eq, reduceIte])
    all_goals (try simp only [resD, frzSV, I.put, List.replicate_succ, List.replicate_zero, toIs, D.toI, toIs_its, toIs_set, List.map_cons, List.map_nil, List.set_cons_zero, List.set_cons_succ, mkSt, allIt, List.map_set, Int.toNat_natCast])
    all_goals (try rfl)
  · have h' : r.rolAt c.name = (j : Int) := by rw [show r.rolAt c.name = ((0 + j : Nat) : Int) from h, Nat.zero_add]
    rw [h'] at x1
    have hxl := hs.hG x (List.mem_of_getElem? hju)
    have hj0 : r.rols[Int.toNat (j : Int)]? = some x := hju
    repeat' ((conv => whnf); first
      | (refine And.intro (fun hb => ?_) (fun hb => ?_) <;> first | (exact absurd hb (by first | assumption | decide)) | (with_reducible exact absurd hb Bool.false_ne_true) | (with_reducible exact absurd hb.symm Bool.false_ne_true) | (exfalso; first | (simp only [LENS] at hb <;> omega) | omega) | ((try rw [hb]); (try simp only [NRMS] at hb); (try subst hb)))
      | (refine Exists.intro ?_ ?_; focus (and_intros <;> first | omega | exact rfl | assumption | (intro _ hh; cases hh; done) | exact all_size (by rfl) | exact size_map (fun _ => rfl) | exact size_one rfl | exact take_size (fun _ => rfl) | exact dsize_one rfl | exact dsize_map (fun _ => rfl) | exact dsize_its (fun _ => rfl) | (simp only [LENS]; omega) | (simp; done) | decide))
      | (intro hfact)
      | ((with_reducible apply Drawn.by0); (focus kernel_rfl); intro hfact; (try simp only [List.mem_append, List.mem_cons, List.not_mem_nil, or_false, false_or, or_assoc, forall_eq_or_imp, forall_eq, false_implies, implies_true, forall_const, and_true, true_and] at hfact))
      | (refine CallWp.mk ⟨_, cp, ?_⟩; rintro _ _ ⟨rfl, rfl⟩)
      | ((try dsimp only); rw [hw])
      | (refine CallIs.mk ⟨_, _, t1, ?_⟩)
      | (refine CallIs.mk ⟨_, _, u1, ?_⟩)
      | (refine CallIs.mk ⟨_, _, x1, ?_⟩)
      | (refine CallWp.mk ⟨_, s1, ?_⟩; rintro _ _ ⟨rfl, rfl⟩)
      | ((try dsimp only); first | rw [map_get hju] | rw [map_getD hju] | rw [map_getN hju]))
    all_goals (try (conv => whnf))
    · all_goals clear h hju
      all_goals (refine Done.mk ⟨?_, by kernel_rfl⟩ (by kernel_rfl))
      all_goals (try simp only [revokeM, h', hj0])
      all_goals (try simp only [revokeM, h', hj0, *, if_true, if_false, Bool.false_eq_true, Bool.true_eq_false, Bool.not_true, Bool.not_false, decide_true, decide_false, not_true_eq_false, not_false_eq_true, ne_eq, reduceIte])
      all_goals (try simp only [resD, frzSV, I.put, List.replicate_succ, List.replicate_zero, toIs, D.toI, toIs_its, toIs_set, List.map_cons, List.map_nil, List.set_cons_zero, List.set_cons_succ, mkSt, allIt, List.map_set, Int.toNat_natCast])
      all_goals (try rfl)
    have hAns : runL (foldStep (revOne c.grant.sp)) foldFin x.grants [] = revM x.grants c.grant.sp := fold_run _ _ _
    have hm : x.grants.length ≤ maxLen := by simp only [maxLen]; omega
    refine each x.grants _ _ _ (fun k s => [(14, .vec T_api_Grant 4 (s.map Gra.toI)), (15, .v (.int .i64 k))]) (fun k s => s.length ≤ 5 * k) [] (by kernel_rfl) (by simp) hAns ?_ ?_ <;> clear hAns
    · rintro k s e he hk hi hA
      dsimp only at hi hA ⊢
      have hrl := rMinus1_length e.sp c.grant.sp
      have hol := revOne_length c.grant.sp s e
      have m1 := spec_srminus [e.sp] c.grant.sp (by simp)
      repeat' ((conv => whnf); first
        | (refine And.intro (fun hb => ?_) (fun hb => ?_) <;> first | (exact absurd hb (by first | assumption | decide)) | (with_reducible exact absurd hb Bool.false_ne_true) | (with_reducible exact absurd hb.symm Bool.false_ne_true) | (exfalso; first | (simp only [LENS] at hb <;> omega) | omega) | ((try rw [hb]); (try simp only [NRMS] at hb); (try subst hb)))
        | (refine Exists.intro ?_ ?_; focus (and_intros <;> first | omega | exact rfl | assumption | (intro _ hh; cases hh; done) | exact all_size (by rfl) | exact size_map (fun _ => rfl) | exact size_one rfl | exact take_size (fun _ => rfl) | exact dsize_one rfl | exact dsize_map (fun _ => rfl) | exact dsize_its (fun _ => rfl) | (simp only [LENS]; omega) | (simp; done) | decide))
        | (intro hfact)
        | ((with_reducible apply Drawn.by0); (focus kernel_rfl); intro hfact; (try simp only [List.mem_append, List.mem_cons, List.not_mem_nil, or_false, false_or, or_assoc, forall_eq_or_imp, forall_eq, false_implies, implies_true, forall_const, and_true, true_and] at hfact))
        | ((try dsimp only); first | rw [map_get he] | rw [map_getD he] | rw [map_getN he])
        | (refine CallIs.mk ⟨_, _, m1, ?_⟩))
      all_goals (try (conv => whnf))
      have hA2 : runL (foldStep (addG e)) foldFin (rMinus [e.sp] c.grant.sp) s = revOne c.grant.sp s e := fold_run _ _ _
      obtain ⟨l2, hl2⟩ : ∃ l2, l2 = rMinus [e.sp] c.grant.sp := ⟨_, rfl⟩
      rw [← hl2] at hA2 hrl ⊢
      obtain ⟨hko, hmo⟩ : k < x.grants.length ∧ x.grants.length ≤ maxLen := ⟨hk, hm⟩
      refine each l2 _ _ _ (fun k s => [(14, .vec T_api_Grant 4 (s.map Gra.toI)), (17, .v (.int .i64 k))]) (fun k' s' => s'.length ≤ s.length + k') s (by kernel_rfl) (by simp) hA2 ?_ ?_ <;> clear hA2
      · clear hA
        rintro k' s' e' he' hk hi' hA
        dsimp only at hi' hA ⊢
        have hm : l2.length ≤ maxLen := by simp only [maxLen]; omega
        have hx' : l2[Int.toNat (k' : Int)]? = some e' := he'
        have hg := spec_hasGrant s' ⟨e', e.r, e.w⟩ (by omega)
        repeat' ((conv => whnf); first
          | (refine And.intro (fun hb => ?_) (fun hb => ?_) <;> first | (exact absurd hb (by first | assumption | decide)) | (with_reducible exact absurd hb Bool.false_ne_true) | (with_reducible exact absurd hb.symm Bool.false_ne_true) | (exfalso; first | (simp only [LENS] at hb <;> omega) | omega) | ((try rw [hb]); (try simp only [NRMS] at hb); (try subst hb)))
          | (refine Exists.intro ?_ ?_; focus (and_intros <;> first | omega | exact rfl | assumption | (intro _ hh; cases hh; done) | exact all_size (by rfl) | exact size_map (fun _ => rfl) | exact size_one rfl | exact take_size (fun _ => rfl) | exact dsize_one rfl | exact dsize_map (fun _ => rfl) | exact dsize_its (fun _ => rfl) | (simp only [LENS]; omega) | (simp; done) | decide))
          | (intro hfact)
          | ((with_reducible apply Drawn.by0); (focus kernel_rfl); intro hfact; (try simp only [List.mem_append, List.mem_cons, List.not_mem_nil, or_false, false_or, or_assoc, forall_eq_or_imp, forall_eq, false_implies, implies_true, forall_const, and_true, true_and] at hfact))
          | ((try dsimp only); first | rw [map_get he'] | rw [map_getD he'] | rw [map_getN he'])
          | ((try dsimp only); first | rw [map_get he] | rw [map_getD he] | rw [map_getN he])
          | (refine CallWp.mk ⟨_, hg, ?_⟩; rintro _ _ ⟨rfl, rfl⟩))
        all_goals (try (conv => whnf))
        all_goals (refine RoundE.by (addG e s' e') ?_ (by have := addG_length e s' e'; omega) hA)
        all_goals (rw [wrap_succ hk hm]; unfold addG; rename_i hb; rw [hb]; simp only [if_true, Bool.false_eq_true, if_false, List.map_append, List.map_cons, List.map_nil])
        all_goals (show norm _ _ = upd _ _; kernel_rfl)
      · rintro s' k' rfl hi' hA'
        dsimp only at hi' hA' ⊢
        obtain rfl : s' = revOne c.grant.sp s e := hA'
        repeat' ((conv => whnf); first
          | (refine And.intro (fun hb => ?_) (fun hb => ?_) <;> first | (exact absurd hb (by first | assumption | decide)) | (with_reducible exact absurd hb Bool.false_ne_true) | (with_reducible exact absurd hb.symm Bool.false_ne_true) | (exfalso; first | (simp only [LENS] at hb <;> omega) | omega) | ((try rw [hb]); (try simp only [NRMS] at hb); (try subst hb)))
          | (refine Exists.intro ?_ ?_; focus (and_intros <;> first | omega | exact rfl | assumption | (intro _ hh; cases hh; done) | exact all_size (by rfl) | exact size_map (fun _ => rfl) | exact size_one rfl | exact take_size (fun _ => rfl) | exact dsize_one rfl | exact dsize_map (fun _ => rfl) | exact dsize_its (fun _ => rfl) | (simp only [LENS]; omega) | (simp; done) | decide))
          | (intro hfact)
          | ((with_reducible apply Drawn.by0); (focus kernel_rfl); intro hfact; (try simp only [List.mem_append, List.mem_cons, List.not_mem_nil, or_false, false_or, or_assoc, forall_eq_or_imp, forall_eq, false_implies, implies_true, forall_const, and_true, true_and] at hfact)))
        all_goals (try (conv => whnf))
        all_goals first
          | (simp [-List.append_assoc, foldStep, *] at hA
             first
             | (refine RoundE.aft hA ?_ ?_
                · (try dsimp only); (try rw [wrap_succ hk hm]); (try simp only [List.map_append, List.map_cons, List.map_nil])
                  show norm _ _ = upd _ _
                  kernel_rfl
                · first | trivial | omega | ((try dsimp only); simp only [LENS]; omega) | ((try dsimp only); (try simp at *); omega))
             | (refine Done.mk ⟨?_, by kernel_rfl⟩ (by kernel_rfl)
                have hA' := hA
                first | (rw [← hA']; first | rfl | kernel_rfl | (simp only [List.map_append, List.map_cons, List.map_nil]; first | rfl | kernel_rfl)) | (rw [← aft_inr hA']; first | rfl | kernel_rfl | (simp only [List.map_append, List.map_cons, List.map_nil]; first | rfl | kernel_rfl)) | (simp at hA' ⊢; simp [*]; done))
            )
    · rintro s k rfl hi hA
      dsimp only at hi hA ⊢
      obtain rfl : s = revM x.grants c.grant.sp := hA
      repeat' ((conv => whnf); first
        | (refine And.intro (fun hb => ?_) (fun hb => ?_) <;> first | (exact absurd hb (by first | assumption | decide)) | (with_reducible exact absurd hb Bool.false_ne_true) | (with_reducible exact absurd hb.symm Bool.false_ne_true) | (exfalso; first | (simp only [LENS] at hb <;> omega) | omega) | ((try rw [hb]); (try simp only [NRMS] at hb); (try subst hb)))
        | (refine Exists.intro ?_ ?_; focus (and_intros <;> first | omega | exact rfl | assumption | (intro _ hh; cases hh; done) | exact all_size (by rfl) | exact size_map (fun _ => rfl) | exact size_one rfl | exact take_size (fun _ => rfl) | exact dsize_one rfl | exact dsize_map (fun _ => rfl) | exact dsize_its (fun _ => rfl) | (simp only [LENS]; omega) | (simp; done) | decide))
        | (intro hfact)
        | ((with_reducible apply Drawn.by0); (focus kernel_rfl); intro hfact; (try simp only [List.mem_append, List.mem_cons, List.not_mem_nil, or_false, false_or, or_assoc, forall_eq_or_imp, forall_eq, false_implies, implies_true, forall_const, and_true, true_and] at hfact))
        | ((first | with_reducible apply wq_eq | with_reducible apply wz_eq | ((first | with_reducible apply at_eyeP | with_reducible apply at_eyeH); (focus rfl))); (focus (simp only [D.at, D.put, D.kid, D.setKid, List.cons_append, List.nil_append, List.append, List.getElem?_cons_zero, List.getElem?_cons_succ, Int.toNat_natCast, List.getElem?_set_self', Option.map_eq_map, Option.map_some, List.set_cons_zero, List.set_cons_succ, List.set_set, Function.const_apply, List.map_cons, List.map_nil, mkSt, allIt, D.toI, toIs, toIs_its, List.getElem?_map, List.length_map, List.length_set, hju] <;> exact rfl)); (try (focus exact rfl))))
      all_goals (try (conv => whnf))
      all_goals clear h hju
      all_goals (refine Done.mk ⟨?_, by kernel_rfl⟩ (by kernel_rfl))
      all_goals (try simp only [revokeM, h', hj0])
      all_goals (try simp only [revokeM, h', hj0, *, if_true, if_false, Bool.false_eq_true, Bool.true_eq_false, Bool.not_true, Bool.not_false, decide_true, decide_false, not_true_eq_false, not_false_eq_true, ne_eq, reduceIte])
      all_goals (try simp only [resD, frzSV, I.put, List.replicate_succ, List.replicate_zero, toIs, D.toI, toIs_its, toIs_set, List.map_cons, List.map_nil, List.set_cons_zero, List.set_cons_succ, mkSt, allIt, List.map_set, Int.toNat_natCast, rols_toI, Roll.toI, Rol.toI, toIs_setR hj])
      all_goals (try rfl)
end Go.Ab

