/- One text of the proof whose last text says what is proved. -/
import Derived.Test.YtoombangidlpjaaA13b
set_option linter.unusedVariables false
set_option linter.unusedSimpArgs false
set_option maxRecDepth 100000
set_option maxHeartbeats 40000000
namespace Go.Ab
open Go.Proofs

theorem toIs_setR : ∀ {l : List Rol} {j : Nat} (_ : j < l.length) (y : D), toIs ((l.map Rol.toD).set j y) = (match y.toI with | some y' => some ((l.map Rol.toI).set j y') | none => none)
  | [], _, h, _ => by simp at h
  | a :: l, 0, _, y => by
    simp only [List.map_cons, List.set_cons_zero, toIs, rols_toI]
    cases y.toI <;> rfl
  | a :: l, j + 1, h, y => by
    have ih := toIs_setR (l := l) (j := j) (by simpa using h) y
    simp only [List.map_cons, List.set_cons_succ, toIs, ih, D.toI, toIs_its]
    cases y.toI <;> rfl
theorem toIs_app1 {l : List I} {x : I} : toIs (l.map D.it ++ [D.it x]) = some (l ++ [x]) := by
  rw [show l.map D.it ++ [D.it x] = (l ++ [x]).map D.it by simp]
  exact toIs_its _
def numOk (n : Int) : Bool := decide (0 ≤ n) && decide (n ≤ 1099511627776)
def quotaM (r : Roll) (c : Cmd) : Roll × Int :=
  if numOk c.bytes = false then (r, 1)
  else if numOk c.keys = false then (r, 1)
  else if r.tenAt c.name < 0 then (r, 16)
  else ({ r with rev := r.rev + 1, tens := r.tens.set (r.tenAt c.name).toNat ⟨c.name, c.bytes, c.keys⟩ }, 0)
theorem spec_do_quota (r : Roll) (hs : r.Small) (c : Cmd) (hrev : -9223372036854775808 ≤ r.rev ∧ r.rev < 1099511627776) (hk : c.kind = 5) : Fn Try.prog F_exchequerref15_Do [.v r.toI, .v c.toI] (Is (.tup [.i (quotaM r c).1.toI, .i (.int .i64 (quotaM r c).2)]) [.no, .no]) := by
  refine Fn.isF (x := [(quotaM r c).1.toI, .int .i64 (quotaM r c).2]) ?_
  refine ofd_exchequerref15_Do' ?_ (by simp)
  have cp := spec_copyN r hs
  have hw : IntKind.i64.wrap (r.rev + 1) = r.rev + 1 := wrap_id (by omega)
  have hb1 := hs.hT
  have hb2 := hs.hU
  have hb3 := hs.hX
  have t1 := spec_TenantAt r c.other (by omega)
  have t2 := spec_TenantAt r c.name (by omega)
  have u1 := spec_UserAt r c.name (by omega)
  have x1 := spec_RoleAt r c.name (by omega)
  have n1 : Fn Try.prog F_exchequerref15_num [.v (.int .i64 c.bytes)] (Is (.v (.bool (numOk c.bytes))) [.no]) := spec_num c.bytes
  have n2 : Fn Try.prog F_exchequerref15_num [.v (.int .i64 c.keys)] (Is (.v (.bool (numOk c.keys))) [.no]) := spec_num c.keys
  rcases findAt_bound (fun t : Ten => decide (t.name = c.name)) 0 r.tens with h | ⟨j, h, hj, u, hju, hun⟩
  · have h' : r.tenAt c.name = -1 := h
    rw [h'] at t2
    repeat' ((conv => whnf); first
      | (refine And.intro (fun hb => ?_) (fun hb => ?_) <;> first | (exact absurd hb (by first | assumption | decide)) | (with_reducible exact absurd hb Bool.false_ne_true) | (with_reducible exact absurd hb.symm Bool.false_ne_true) | (exfalso; first | (simp only [LENS] at hb <;> omega) | omega) | ((try rw [hb]); (try simp only [NRMS] at hb); (try subst hb)))
      | (refine Exists.intro ?_ ?_; focus (and_intros <;> first | omega | exact rfl | assumption | (intro _ hh; cases hh; done) | exact all_size (by rfl) | exact size_map (fun _ => rfl) | exact size_one rfl | exact take_size (fun _ => rfl) | exact dsize_one rfl | exact dsize_map (fun _ => rfl) | exact dsize_its (fun _ => rfl) | (simp only [LENS]; omega) | (simp; done) | decide))
      | (intro hfact)
      | ((with_reducible apply Drawn.by0); (focus kernel_rfl); intro hfact; (try simp only [List.mem_append, List.mem_cons, List.not_mem_nil, or_false, false_or, or_assoc, forall_eq_or_imp, forall_eq, false_implies, implies_true, forall_const, and_true, true_and] at hfact))
      | (refine CallWp.mk ⟨_, cp, ?_⟩; rintro _ _ ⟨rfl, rfl⟩)
      | ((try dsimp only); rw [hw])
      | (refine CallIs.mk ⟨_, _, t1, ?_⟩)
      | (refine CallIs.mk ⟨_, _, u1, ?_⟩)
      | (refine CallIs.mk ⟨_, _, x1, ?_⟩)
      | (refine CallWp.mk ⟨_, t2, ?_⟩; rintro _ _ ⟨rfl, rfl⟩)
      | (refine CallWp.mk ⟨_, n1, ?_⟩; rintro _ _ ⟨rfl, rfl⟩)
      | (refine CallWp.mk ⟨_, n2, ?_⟩; rintro _ _ ⟨rfl, rfl⟩))
    all_goals (try (conv => whnf))
    all_goals (refine Done.mk ⟨?_, by kernel_rfl⟩ (by kernel_rfl))
    all_goals (try simp only [quotaM, h'])
    all_goals (try simp only [quotaM, h', *, if_true, if_false, Bool.false_eq_true, Bool.true_eq_false, Bool.not_true, Bool.not_false, decide_true, decide_false, not_true_eq_false, not_false_eq_true, ne_eq, reduceIte])
    all_goals (try simp only [resD, frzSV, I.put, List.replicate_succ, List.replicate_zero, toIs, D.toI, toIs_its, toIs_set, List.map_cons, List.map_nil, List.set_cons_zero, List.set_cons_succ, mkSt, allIt, List.map_set, Int.toNat_natCast])
    all_goals (try rfl)
  · have h' : r.tenAt c.name = (j : Int) := by rw [show r.tenAt c.name = ((0 + j : Nat) : Int) from h, Nat.zero_add]
    rw [h'] at t2
    repeat' ((conv => whnf); first
      | (refine And.intro (fun hb => ?_) (fun hb => ?_) <;> first | (exact absurd hb (by first | assumption | decide)) | (with_reducible exact absurd hb Bool.false_ne_true) | (with_reducible exact absurd hb.symm Bool.false_ne_true) | (exfalso; first | (simp only [LENS] at hb <;> omega) | omega) | ((try rw [hb]); (try simp only [NRMS] at hb); (try subst hb)))
      | (refine Exists.intro ?_ ?_; focus (and_intros <;> first | omega | exact rfl | assumption | (intro _ hh; cases hh; done) | exact all_size (by rfl) | exact size_map (fun _ => rfl) | exact size_one rfl | exact take_size (fun _ => rfl) | exact dsize_one rfl | exact dsize_map (fun _ => rfl) | exact dsize_its (fun _ => rfl) | (simp only [LENS]; omega) | (simp; done) | decide))
      | (intro hfact)
      | ((with_reducible apply Drawn.by0); (focus kernel_rfl); intro hfact; (try simp only [List.mem_append, List.mem_cons, List.not_mem_nil, or_false, false_or, or_assoc, forall_eq_or_imp, forall_eq, false_implies, implies_true, forall_const, and_true, true_and] at hfact))
      | (refine CallWp.mk ⟨_, cp, ?_⟩; rintro _ _ ⟨rfl, rfl⟩)
      | ((try dsimp only); rw [hw])
      | (refine CallIs.mk ⟨_, _, t1, ?_⟩)
      | (refine CallIs.mk ⟨_, _, u1, ?_⟩)
      | (refine CallIs.mk ⟨_, _, x1, ?_⟩)
      | (refine CallWp.mk ⟨_, t2, ?_⟩; rintro _ _ ⟨rfl, rfl⟩)
      | (refine CallWp.mk ⟨_, n1, ?_⟩; rintro _ _ ⟨rfl, rfl⟩)
      | (refine CallWp.mk ⟨_, n2, ?_⟩; rintro _ _ ⟨rfl, rfl⟩)
      | ((first | with_reducible apply wq_eq | with_reducible apply wz_eq | ((first | with_reducible apply at_eyeP | with_reducible apply at_eyeH); (focus rfl))); (focus (simp only [D.at, D.put, D.kid, D.setKid, List.cons_append, List.nil_append, List.append, List.getElem?_cons_zero, List.getElem?_cons_succ, Int.toNat_natCast, List.getElem?_set_self', Option.map_eq_map, Option.map_some, List.set_cons_zero, List.set_cons_succ, List.set_set, Function.const_apply, List.map_cons, List.map_nil, mkSt, allIt, D.toI, toIs, toIs_its, List.getElem?_map, List.length_map, List.length_set, hju] <;> exact rfl)); (try (focus exact rfl))))
    all_goals (try (conv => whnf))
    all_goals clear h hju
    all_goals (refine Done.mk ⟨?_, by kernel_rfl⟩ (by kernel_rfl))
    all_goals (try simp only [quotaM, h'])
    all_goals (try simp only [quotaM, h', *, if_true, if_false, Bool.false_eq_true, Bool.true_eq_false, Bool.not_true, Bool.not_false, decide_true, decide_false, not_true_eq_false, not_false_eq_true, ne_eq, reduceIte])
    all_goals (try simp only [resD, frzSV, I.put, List.replicate_succ, List.replicate_zero, toIs, D.toI, toIs_its, toIs_set, List.map_cons, List.map_nil, List.set_cons_zero, List.set_cons_succ, mkSt, allIt, List.map_set, Int.toNat_natCast, rols_toI, Roll.toI, Ten.toI])
    all_goals (try rfl)
def grantM (r : Roll) (c : Cmd) : Roll × Int :=
  if !(decide (SpR c.grant.sp) && (c.grant.r || c.grant.w)) then (r, 1)
  else if r.rolAt c.name < 0 then (r, 16)
  else match r.rols[(r.rolAt c.name).toNat]? with
  | none => (r, 16)
  | some x =>
    if x.grants.any (fun e => decide (e = c.grant)) then (r, 15)
    else if 8 ≤ (x.grants.length : Int) then (r, 17)
    else ({ r with rev := r.rev + 1, rols := r.rols.set (r.rolAt c.name).toNat { x with grants := x.grants ++ [c.grant] } }, 0)
theorem spec_grantOk (g : Gra) : Fn Try.prog F_exchequerref15_Grant [.v g.toI] (Is (.v (.bool (decide (SpR g.sp) && (g.r || g.w)))) [.no]) := by
  refine of_exchequerref15_Grant ?_ (by simp)
  have s1 := spec_srright g.sp
  repeat' ((conv => whnf); first
    | (refine And.intro (fun hb => ?_) (fun hb => ?_) <;> first | (exact absurd hb (by first | assumption | decide)) | (with_reducible exact absurd hb Bool.false_ne_true) | (with_reducible exact absurd hb.symm Bool.false_ne_true) | (exfalso; first | (simp only [LENS] at hb <;> omega) | omega) | ((try rw [hb]); (try simp only [NRMS] at hb); (try subst hb)))
    | (refine Exists.intro ?_ ?_; focus (and_intros <;> first | omega | exact rfl | assumption | (intro _ hh; cases hh; done) | exact all_size (by rfl) | exact size_map (fun _ => rfl) | exact size_one rfl | exact take_size (fun _ => rfl) | exact dsize_one rfl | exact dsize_map (fun _ => rfl) | exact dsize_its (fun _ => rfl) | (simp only [LENS]; omega) | (simp; done) | decide))
    | (intro hfact)
    | (refine CallWp.mk ⟨_, s1, ?_⟩; rintro _ _ ⟨rfl, rfl⟩))
  all_goals (try (conv => whnf))
  all_goals (refine Done.mk ⟨SV.bool_congr ?_, by kernel_rfl⟩ (by kernel_rfl))
  all_goals (simp [*])
theorem spec_do_grant (r : Roll) (hs : r.Small) (c : Cmd) (hrev : -9223372036854775808 ≤ r.rev ∧ r.rev < 1099511627776) (hk : c.kind = 11) : Fn Try.prog F_exchequerref15_Do [.v r.toI, .v c.toI] (Is (.tup [.i (grantM r c).1.toI, .i (.int .i64 (grantM r c).2)]) [.no, .no]) := by
  refine Fn.isF (x := [(grantM r c).1.toI, .int .i64 (grantM r c).2]) ?_
  refine ofd_exchequerref15_Do' ?_ (by simp)
  have cp := spec_copyN r hs
  have hw : IntKind.i64.wrap (r.rev + 1) = r.rev + 1 := wrap_id (by omega)
  have hb1 := hs.hT
  have hb2 := hs.hU
  have hb3 := hs.hX
  have t1 := spec_TenantAt r c.other (by omega)
  have u1 := spec_UserAt r c.name (by omega)
  have x1 := spec_RoleAt r c.name (by omega)
  have g1 := spec_grantOk c.grant
  rcases findAt_bound (fun t : Rol => decide (t.name = c.name)) 0 r.rols with h | ⟨j, h, hj, x, hju, hun⟩
  · have h' : r.rolAt c.name = -1 := h
    rw [h'] at x1
    repeat' ((conv => whnf); first
      | (refine And.intro (fun hb => ?_) (fun hb => ?_) <;> first | (exact absurd hb (by first | assumption | decide)) | (with_reducible exact absurd hb Bool.false_ne_true) | (with_reducible exact absurd hb.symm Bool.false_ne_true) | (exfalso; first | (simp only [LENS] at hb <;> omega) | omega) | ((try rw [hb]); (try simp only [NRMS] at hb); (try subst hb)))
      | (refine Exists.intro ?_ ?_; focus (and_intros <;> first | omega | exact rfl | assumption | (intro _ hh; cases hh; done) | exact all_size (by rfl) | exact size_map (fun _ => rfl) | exact size_one rfl | exact take_size (fun _ => rfl) | exact dsize_one rfl | exact dsize_map (fun _ => rfl) | exact dsize_its (fun _ => rfl) | (simp only [LENS]; omega) | (simp; done) | decide))
      | (intro hfact)
      | ((with_reducible apply Drawn.by0); (focus kernel_rfl); intro hfact; (try simp only [List.mem_append, List.mem_cons, List.not_mem_nil, or_false, false_or, or_assoc, forall_eq_or_imp, forall_eq, false_implies, implies_true, forall_const, and_true, true_and] at hfact))
      | (refine CallWp.mk ⟨_, cp, ?_⟩; rintro _ _ ⟨rfl, rfl⟩)
      | ((try dsimp only); rw [hw])
      | (refine CallIs.mk ⟨_, _, t1, ?_⟩)
      | (refine CallIs.mk ⟨_, _, u1, ?_⟩)
      | (refine CallIs.mk ⟨_, _, x1, ?_⟩)
      | (refine CallWp.mk ⟨_, g1, ?_⟩; rintro _ _ ⟨rfl, rfl⟩))
    all_goals (try (conv => whnf))
    all_goals (refine Done.mk ⟨?_, by kernel_rfl⟩ (by kernel_rfl))
    all_goals (try simp only [grantM, h'])
    all_goals (try simp only [grantM, h', *, if_true, if_false, Bool.false_eq_true, Bool.true_eq_false, Bool.not_true, Bool.not_false, decide_true, decide_false, not_true_eq_false, not_false_eq_true, ne_eq, reduceIte])
    all_goals (try simp only [resD, frzSV, I.put, List.replicate_succ, List.replicate_zero, toIs, D.toI, toIs_its, toIs_set, List.map_cons, List.map_nil, List.set_cons_zero, List.set_cons_succ, mkSt, allIt, List.map_set, Int.toNat_natCast])
    all_goals (try rfl)
  · have h' : r.rolAt c.name = (j : Int) := by rw [show r.rolAt c.name = ((0 + j : Nat) : Int) from h, Nat.zero_add]
    rw [h'] at x1
    have hxl := hs.hG x (List.mem_of_getElem? hju)
    have hj0 : r.rols[Int.toNat (j : Int)]? = some x := hju
    have g2 := spec_hasGrant x.grants c.grant (by omega)
    repeat' ((conv => whnf); first
      | (refine And.intro (fun hb => ?_) (fun hb => ?_) <;> first | (exact absurd hb (by first | assumption | decide)) | (with_reducible exact absurd hb Bool.false_ne_true) | (with_reducible exact absurd hb.symm Bool.false_ne_true) | (exfalso; first | (simp only [LENS] at hb <;> omega) | omega) | ((try rw [hb]); (try simp only [NRMS] at hb); (try subst hb)))
      | (refine Exists.intro ?_ ?_; focus (and_intros <;> first | omega | exact rfl | assumption | (intro _ hh; cases hh; done) | exact all_size (by rfl) | exact size_map (fun _ => rfl) | exact size_one rfl | exact take_size (fun _ => rfl) | exact dsize_one rfl | exact dsize_map (fun _ => rfl) | exact dsize_its (fun _ => rfl) | (simp only [LENS]; omega) | (simp; done) | decide))
      | (intro hfact)
      | (refine Drawn.mk (by kernel_rfl) (by repeat' ((conv => whnf); first | exact True.intro | refine And.intro ?_ ?_ | rfl | (dsimp only [eyeP, eyeO, eyeR, eyeH, seen]; rfl))) (fun hfact => ?_); (try simp only [List.mem_append, List.mem_cons, List.not_mem_nil, or_false, false_or, or_assoc, forall_eq_or_imp, forall_eq, false_implies, implies_true, forall_const, and_true, true_and] at hfact))
      | (refine CallWp.mk ⟨_, cp, ?_⟩; rintro _ _ ⟨rfl, rfl⟩)
      | ((try dsimp only); rw [hw])
      | (refine CallIs.mk ⟨_, _, t1, ?_⟩)
      | (refine CallIs.mk ⟨_, _, u1, ?_⟩)
      | (refine CallIs.mk ⟨_, _, x1, ?_⟩)
      | (refine CallWp.mk ⟨_, g1, ?_⟩; rintro _ _ ⟨rfl, rfl⟩)
      | ((try dsimp only); first | rw [map_get hju] | rw [map_getD hju] | rw [map_getN hju])
      | (refine CallWp.mk ⟨_, g2, ?_⟩; rintro _ _ ⟨rfl, rfl⟩)
      | ((first | with_reducible apply wq_eq | with_reducible apply wz_eq | ((first | with_reducible apply at_eyeP | with_reducible apply at_eyeH); (focus rfl))); (focus (simp only [D.at, D.put, D.kid, D.setKid, List.cons_append, List.nil_append, List.append, List.getElem?_cons_zero, List.getElem?_cons_succ, Int.toNat_natCast, List.getElem?_set_self', Option.map_eq_map, Option.map_some, List.set_cons_zero, List.set_cons_succ, List.set_set, Function.const_apply, List.map_cons, List.map_nil, mkSt, allIt, D.toI, toIs, toIs_its, List.getElem?_map, List.length_map, List.length_set, hju] <;> exact rfl)); (try (focus exact rfl))))
    all_goals (try (conv => whnf))
    all_goals clear h hju
    all_goals (refine Done.mk ⟨?_, by kernel_rfl⟩ (by kernel_rfl))
    all_goals (try simp only [grantM, h', hj0])
    all_goals (try simp only [grantM, h', hj0, *, if_true, if_false, Bool.false_eq_true, Bool.true_eq_false, Bool.not_true, Bool.not_false, decide_true, decide_false, not_true_eq_false, not_false_eq_true, ne_eq, reduceIte])
    all_goals (try simp only [resD, frzSV, I.put, List.replicate_succ, List.replicate_zero, toIs, D.toI, toIs_its, toIs_set, List.map_cons, List.map_nil, List.set_cons_zero, List.set_cons_succ, mkSt, allIt, List.map_set, Int.toNat_natCast, rols_toI, Roll.toI, Rol.toI, toIs_setR hj, toIs_app1, List.map_append])
    all_goals (try rfl)
end Go.Ab

