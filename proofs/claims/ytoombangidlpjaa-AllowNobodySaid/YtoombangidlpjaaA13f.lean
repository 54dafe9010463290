/- One text of the proof whose last text says what is proved. -/
import Derived.Test.YtoombangidlpjaaA13c
import Derived.Test.YtoombangidlpjaaA3
import Derived.Test.YtoombangidlpjaaA8
set_option linter.unusedVariables false
set_option linter.unusedSimpArgs false
set_option maxRecDepth 100000
set_option maxHeartbeats 40000000
namespace Go.Ab
open Go.Proofs

def tenantM (r : Roll) (c : Cmd) : Roll × Int :=
  if nameM c.name = false then (r, 5)
  else if numOk c.bytes = false then (r, 1)
  else if numOk c.keys = false then (r, 1)
  else if 0 ≤ r.tenAt c.name then (r, 15)
  else if 8 ≤ (r.tens.length : Int) then (r, 17)
  else ({ r with rev := r.rev + 1, tens := insBy (fun e : Ten => decide (c.name < e.name)) ⟨c.name, c.bytes, c.keys⟩ r.tens }, 0)
theorem spec_do_tenant (r : Roll) (hs : r.Small) (c : Cmd) (hrev : -9223372036854775808 ≤ r.rev ∧ r.rev < 1099511627776) (hk : c.kind = 4) : Fn Try.prog F_exchequerref15_Do [.v r.toI, .v c.toI] (Is (.tup [.i (tenantM r c).1.toI, .i (.int .i64 (tenantM r c).2)]) [.no, .no]) := by
  refine Fn.isF (x := [(tenantM r c).1.toI, .int .i64 (tenantM r c).2]) ?_
  refine ofd_exchequerref15_Do' ?_ (by simp)
  have cp := spec_copyF r hs
  have hw : IntKind.i64.wrap (r.rev + 1) = r.rev + 1 := wrap_id (by omega)
  have hb1 := hs.hT
  have hb2 := hs.hU
  have hb3 := hs.hX
  have t1 := spec_TenantAt r c.other (by omega)
  have t2 := spec_TenantAt r c.name (by omega)
  have u1 := spec_UserAt r c.name (by omega)
  have x1 := spec_RoleAt r c.name (by omega)
  have nm := spec_name c.name
  have n1 : Fn Try.prog F_exchequerref15_num [.v (.int .i64 c.bytes)] (Is (.v (.bool (numOk c.bytes))) [.no]) := spec_num c.bytes
  have n2 : Fn Try.prog F_exchequerref15_num [.v (.int .i64 c.keys)] (Is (.v (.bool (numOk c.keys))) [.no]) := spec_num c.keys
  have ad := spec_addTenant r.tens ⟨c.name, c.bytes, c.keys⟩ (by omega)
  repeat' ((conv => whnf); first
    | (refine And.intro (fun hb => ?_) (fun hb => ?_) <;> first | (exact absurd hb (by first | assumption | decide)) | (with_reducible exact absurd hb Bool.false_ne_true) | (with_reducible exact absurd hb.symm Bool.false_ne_true) | (exfalso; first | (simp only [LENS] at hb <;> omega) | omega) | ((try rw [hb]); (try simp only [NRMS] at hb); (try subst hb)))
    | (refine Exists.intro ?_ ?_; focus (and_intros <;> first | omega | exact rfl | assumption | (intro _ hh; cases hh; done) | exact all_size (by rfl) | exact size_map (fun _ => rfl) | exact size_one rfl | exact take_size (fun _ => rfl) | exact dsize_one rfl | exact dsize_map (fun _ => rfl) | exact dsize_its (fun _ => rfl) | (simp only [LENS]; omega) | (simp; done) | decide))
    | (intro hfact)
    | ((with_reducible apply Drawn.by0); (focus kernel_rfl); intro hfact; (try simp only [List.mem_append, List.mem_cons, List.not_mem_nil, or_false, false_or, or_assoc, forall_eq_or_imp, forall_eq, false_implies, implies_true, forall_const, and_true, true_and] at hfact))
    | (refine CallWp.mk ⟨_, cp, ?_⟩; rintro _ _ ⟨rfl, rfl⟩)
    | ((try dsimp only); rw [hw])
    | (refine CallIs.mk ⟨_, _, t1, ?_⟩)
    | (refine CallIs.mk ⟨_, _, u1, ?_⟩)
    | (refine CallIs.mk ⟨_, _, x1, ?_⟩)
    | (refine CallWp.mk ⟨_, t2, ?_⟩; rintro _ _ ⟨rfl, rfl⟩)
    | (refine CallWp.mk ⟨_, n1, ?_⟩; rintro _ _ ⟨rfl, rfl⟩)
    | (refine CallWp.mk ⟨_, n2, ?_⟩; rintro _ _ ⟨rfl, rfl⟩)
    | (refine CallWp.mk ⟨_, nm, ?_⟩; rintro _ _ ⟨rfl, rfl⟩)
    | (refine CallWp.mk ⟨_, ad, ?_⟩; rintro _ _ ⟨rfl, rfl⟩)
    | (refine CallIs.mk ⟨_, _, ad, ?_⟩))
  all_goals (try (conv => whnf))
  all_goals (refine Done.mk ⟨?_, by kernel_rfl⟩ (by kernel_rfl))
  all_goals (try simp only [tenantM])
  all_goals (try simp only [tenantM, *, if_true, if_false, Bool.false_eq_true, Bool.true_eq_false, Bool.not_true, Bool.not_false, decide_true, decide_false, not_true_eq_false, not_false_eq_true, ne_eq, reduceIte])
  all_goals (try simp only [resD, frzSV, I.put, List.replicate_succ, List.replicate_zero, toIs, D.toI, toIs_its, toIs_set, List.map_cons, List.map_nil, List.set_cons_zero, List.set_cons_succ, mkSt, allIt, List.map_set, Int.toNat_natCast])
  all_goals (try rfl)
def roleM (r : Roll) (c : Cmd) : Roll × Int :=
  if nameM c.name = false then (r, 5)
  else if 0 ≤ r.rolAt c.name then (r, 15)
  else if r.tenAt c.other < 0 then (r, 16)
  else if 16 ≤ (r.rols.length : Int) then (r, 17)
  else ({ r with rev := r.rev + 1, rols := insBy (fun e : Rol => decide (c.name < e.name)) ⟨c.name, c.other, []⟩ r.rols }, 0)
theorem spec_do_role (r : Roll) (hs : r.Small) (c : Cmd) (hrev : -9223372036854775808 ≤ r.rev ∧ r.rev < 1099511627776) (hk : c.kind = 9) : Fn Try.prog F_exchequerref15_Do [.v r.toI, .v c.toI] (Is (.tup [.i (roleM r c).1.toI, .i (.int .i64 (roleM r c).2)]) [.no, .no]) := by
  refine Fn.isF (x := [(roleM r c).1.toI, .int .i64 (roleM r c).2]) ?_
  refine ofd_exchequerref15_Do' ?_ (by simp)
  have cp := spec_copyF r hs
  have hw : IntKind.i64.wrap (r.rev + 1) = r.rev + 1 := wrap_id (by omega)
  have hb1 := hs.hT
  have hb2 := hs.hU
  have hb3 := hs.hX
  have t1 := spec_TenantAt r c.other (by omega)
  have u1 := spec_UserAt r c.name (by omega)
  have x1 := spec_RoleAt r c.name (by omega)
  have nm := spec_name c.name
  have ad := spec_addRole r.rols ⟨c.name, c.other, []⟩ (by omega)
  repeat' ((conv => whnf); first
    | (refine And.intro (fun hb => ?_) (fun hb => ?_) <;> first | (exact absurd hb (by first | assumption | decide)) | (with_reducible exact absurd hb Bool.false_ne_true) | (with_reducible exact absurd hb.symm Bool.false_ne_true) | (exfalso; first | (simp only [LENS] at hb <;> omega) | omega) | ((try rw [hb]); (try simp only [NRMS] at hb); (try subst hb)))
    | (refine Exists.intro ?_ ?_; focus (and_intros <;> first | omega | exact rfl | assumption | (intro _ hh; cases hh; done) | exact all_size (by rfl) | exact size_map (fun _ => rfl) | exact size_one rfl | exact take_size (fun _ => rfl) | exact dsize_one rfl | exact dsize_map (fun _ => rfl) | exact dsize_its (fun _ => rfl) | (simp only [LENS]; omega) | (simp; done) | decide))
    | (intro hfact)
    | ((with_reducible apply Drawn.by0); (focus kernel_rfl); intro hfact; (try simp only [List.mem_append, List.mem_cons, List.not_mem_nil, or_false, false_or, or_assoc, forall_eq_or_imp, forall_eq, false_implies, implies_true, forall_const, and_true, true_and] at hfact))
    | (refine CallWp.mk ⟨_, cp, ?_⟩; rintro _ _ ⟨rfl, rfl⟩)
    | ((try dsimp only); rw [hw])
    | (refine CallIs.mk ⟨_, _, t1, ?_⟩)
    | (refine CallIs.mk ⟨_, _, u1, ?_⟩)
    | (refine CallIs.mk ⟨_, _, x1, ?_⟩)
    | (refine CallWp.mk ⟨_, nm, ?_⟩; rintro _ _ ⟨rfl, rfl⟩)
    | (refine CallWp.mk ⟨_, ad, ?_⟩; rintro _ _ ⟨rfl, rfl⟩)
    | (refine CallIs.mk ⟨_, _, ad, ?_⟩))
  all_goals (try (conv => whnf))
  all_goals (refine Done.mk ⟨?_, by kernel_rfl⟩ (by kernel_rfl))
  all_goals (try simp only [roleM])
  all_goals (try simp only [roleM, *, if_true, if_false, Bool.false_eq_true, Bool.true_eq_false, Bool.not_true, Bool.not_false, decide_true, decide_false, not_true_eq_false, not_false_eq_true, ne_eq, reduceIte])
  all_goals (try simp only [resD, frzSV, I.put, List.replicate_succ, List.replicate_zero, toIs, D.toI, toIs_its, toIs_set, List.map_cons, List.map_nil, List.set_cons_zero, List.set_cons_succ, mkSt, allIt, List.map_set, Int.toNat_natCast])
  all_goals (try rfl)
def userM (r : Roll) (c : Cmd) : Roll × Int :=
  if nameM c.name = false then (r, 5)
  else if 64 < (c.word.length : Int) then (r, 2)
  else if 64 < (c.salt.length : Int) then (r, 2)
  else if 0 ≤ r.usrAt c.name then (r, 15)
  else if r.tenAt c.other < 0 then (r, 16)
  else if 16 ≤ (r.usrs.length : Int) then (r, 17)
  else ({ r with rev := r.rev + 1, usrs := insBy (fun e : Usr => decide (c.name < e.name)) ⟨c.name, c.other, c.salt, hashM c.salt c.word, []⟩ r.usrs }, 0)
theorem spec_do_user (r : Roll) (hs : r.Small) (c : Cmd) (hrev : -9223372036854775808 ≤ r.rev ∧ r.rev < 1099511627776) (hk : c.kind = 6) (hws : c.word.length ≤ 1000000 ∧ c.salt.length ≤ 1000000) : Fn Try.prog F_exchequerref15_Do [.v r.toI, .v c.toI] (Is (.tup [.i (userM r c).1.toI, .i (.int .i64 (userM r c).2)]) [.no, .no]) := by
  refine Fn.isF (x := [(userM r c).1.toI, .int .i64 (userM r c).2]) ?_
  refine ofd_exchequerref15_Do' ?_ (by simp)
  have cp := spec_copyF r hs
  have hw : IntKind.i64.wrap (r.rev + 1) = r.rev + 1 := wrap_id (by omega)
  have hb1 := hs.hT
  have hb2 := hs.hU
  have hb3 := hs.hX
  have t1 := spec_TenantAt r c.other (by omega)
  have u1 := spec_UserAt r c.name (by omega)
  have x1 := spec_RoleAt r c.name (by omega)
  have nm := spec_name c.name
  have hh := spec_hash c.salt c.word hws.2 hws.1
  have ad := spec_addUser r.usrs ⟨c.name, c.other, c.salt, hashM c.salt c.word, []⟩ (by omega)
  repeat' ((conv => whnf); first
    | (refine And.intro (fun hb => ?_) (fun hb => ?_) <;> first | (exact absurd hb (by first | assumption | decide)) | (with_reducible exact absurd hb Bool.false_ne_true) | (with_reducible exact absurd hb.symm Bool.false_ne_true) | (exfalso; first | (simp only [LENS] at hb <;> omega) | omega) | ((try rw [hb]); (try simp only [NRMS] at hb); (try subst hb)))
    | (refine Exists.intro ?_ ?_; focus (and_intros <;> first | omega | exact rfl | assumption | (intro _ hh; cases hh; done) | exact all_size (by rfl) | exact size_map (fun _ => rfl) | exact size_one rfl | exact take_size (fun _ => rfl) | exact dsize_one rfl | exact dsize_map (fun _ => rfl) | exact dsize_its (fun _ => rfl) | (simp only [LENS]; omega) | (simp; done) | decide))
    | (intro hfact)
    | ((with_reducible apply Drawn.by0); (focus kernel_rfl); intro hfact; (try simp only [List.mem_append, List.mem_cons, List.not_mem_nil, or_false, false_or, or_assoc, forall_eq_or_imp, forall_eq, false_implies, implies_true, forall_const, and_true, true_and] at hfact))
    | (refine CallWp.mk ⟨_, cp, ?_⟩; rintro _ _ ⟨rfl, rfl⟩)
    | ((try dsimp only); rw [hw])
    | (refine CallIs.mk ⟨_, _, t1, ?_⟩)
    | (refine CallIs.mk ⟨_, _, u1, ?_⟩)
    | (refine CallIs.mk ⟨_, _, x1, ?_⟩)
    | (refine CallWp.mk ⟨_, nm, ?_⟩; rintro _ _ ⟨rfl, rfl⟩)
    | (refine CallIs.mk ⟨_, _, hh, ?_⟩)
    | (refine CallWp.mk ⟨_, ad, ?_⟩; rintro _ _ ⟨rfl, rfl⟩)
    | (refine CallIs.mk ⟨_, _, ad, ?_⟩))
  all_goals (try (conv => whnf))
  all_goals (refine Done.mk ⟨?_, by kernel_rfl⟩ (by kernel_rfl))
  all_goals (try simp only [userM])
  all_goals (try simp only [userM, *, if_true, if_false, Bool.false_eq_true, Bool.true_eq_false, Bool.not_true, Bool.not_false, decide_true, decide_false, not_true_eq_false, not_false_eq_true, ne_eq, reduceIte])
  all_goals (try simp only [resD, frzSV, I.put, List.replicate_succ, List.replicate_zero, toIs, D.toI, toIs_its, toIs_set, List.map_cons, List.map_nil, List.set_cons_zero, List.set_cons_succ, mkSt, allIt, List.map_set, Int.toNat_natCast])
  all_goals (try rfl)
def wordM (r : Roll) (c : Cmd) : Roll × Int :=
  if 64 < (c.word.length : Int) then (r, 2)
  else if 64 < (c.salt.length : Int) then (r, 2)
  else if r.usrAt c.name < 0 then (r, 16)
  else match r.usrs[(r.usrAt c.name).toNat]? with
  | none => (r, 16)
  | some u => ({ r with rev := r.rev + 1, usrs := r.usrs.set (r.usrAt c.name).toNat { u with salt := c.salt, hash := hashM c.salt c.word } }, 0)
theorem spec_do_word (r : Roll) (hs : r.Small) (c : Cmd) (hrev : -9223372036854775808 ≤ r.rev ∧ r.rev < 1099511627776) (hk : c.kind = 7) (hws : c.word.length ≤ 1000000 ∧ c.salt.length ≤ 1000000) : Fn Try.prog F_exchequerref15_Do [.v r.toI, .v c.toI] (Is (.tup [.i (wordM r c).1.toI, .i (.int .i64 (wordM r c).2)]) [.no, .no]) := by
  refine Fn.isF (x := [(wordM r c).1.toI, .int .i64 (wordM r c).2]) ?_
  refine ofd_exchequerref15_Do' ?_ (by simp)
  have cp := spec_copyN r hs
  have hw : IntKind.i64.wrap (r.rev + 1) = r.rev + 1 := wrap_id (by omega)
  have hb1 := hs.hT
  have hb2 := hs.hU
  have hb3 := hs.hX
  have t1 := spec_TenantAt r c.other (by omega)
  have u1 := spec_UserAt r c.name (by omega)
  have x1 := spec_RoleAt r c.name (by omega)
  have hh := spec_hash c.salt c.word hws.2 hws.1
  rcases findAt_bound (fun t : Usr => decide (t.name = c.name)) 0 r.usrs with h | ⟨j, h, hj, u, hju, hun⟩
  · have h' : r.usrAt c.name = -1 := h
    rw [h'] at u1
    repeat' ((conv => whnf); first
      | (refine And.intro (fun hb => ?_) (fun hb => ?_) <;> first | (exact absurd hb (by first | assumption | decide)) | (with_reducible exact absurd hb Bool.false_ne_true) | (with_reducible exact absurd hb.symm Bool.false_ne_true) | (exfalso; first | (simp only [LENS] at hb <;> omega) | omega) | ((try rw [hb]); (try simp only [NRMS] at hb); (try subst hb)))
      | (refine Exists.intro ?_ ?_; focus (and_intros <;> first | omega | exact rfl | assumption | (intro _ hh; cases hh; done) | exact all_size (by rfl) | exact size_map (fun _ => rfl) | exact size_one rfl | exact take_size (fun _ => rfl) | exact dsize_one rfl | exact dsize_map (fun _ => rfl) | exact dsize_its (fun _ => rfl) | (simp only [LENS]; omega) | (simp; done) | decide))
      | (intro hfact)
      | ((with_reducible apply Drawn.by0); (focus kernel_rfl); intro hfact; (try simp only [List.mem_append, List.mem_cons, List.not_mem_nil, or_false, false_or, or_assoc, forall_eq_or_imp, forall_eq, false_implies, implies_true, forall_const, and_true, true_and] at hfact))
      | (refine CallWp.mk ⟨_, cp, ?_⟩; rintro _ _ ⟨rfl, rfl⟩)
      | ((try dsimp only); rw [hw])
      | (refine CallIs.mk ⟨_, _, t1, ?_⟩)
      | (refine CallIs.mk ⟨_, _, u1, ?_⟩)
      | (refine CallIs.mk ⟨_, _, x1, ?_⟩))
    all_goals (try (conv => whnf))
    all_goals (refine Done.mk ⟨?_, by kernel_rfl⟩ (by kernel_rfl))
    all_goals (try simp only [wordM, h'])
    all_goals (try simp only [wordM, h', *, if_true, if_false, Bool.false_eq_true, Bool.true_eq_false, Bool.not_true, Bool.not_false, decide_true, decide_false, not_true_eq_false, not_false_eq_true, ne_eq, reduceIte])
    all_goals (try simp only [resD, frzSV, I.put, List.replicate_succ, List.replicate_zero, toIs, D.toI, toIs_its, toIs_set, List.map_cons, List.map_nil, List.set_cons_zero, List.set_cons_succ, mkSt, allIt, List.map_set, Int.toNat_natCast])
    all_goals (try rfl)
  · have h' : r.usrAt c.name = (j : Int) := by rw [show r.usrAt c.name = ((0 + j : Nat) : Int) from h, Nat.zero_add]
    rw [h'] at u1
    have hj0 : r.usrs[Int.toNat (j : Int)]? = some u := hju
    repeat' ((conv => whnf); first
      | (refine And.intro (fun hb => ?_) (fun hb => ?_) <;> first | (exact absurd hb (by first | assumption | decide)) | (with_reducible exact absurd hb Bool.false_ne_true) | (with_reducible exact absurd hb.symm Bool.false_ne_true) | (exfalso; first | (simp only [LENS] at hb <;> omega) | omega) | ((try rw [hb]); (try simp only [NRMS] at hb); (try subst hb)))
      | (refine Exists.intro ?_ ?_; focus (and_intros <;> first | omega | exact rfl | assumption | (intro _ hh; cases hh; done) | exact all_size (by rfl) | exact size_map (fun _ => rfl) | exact size_one rfl | exact take_size (fun _ => rfl) | exact dsize_one rfl | exact dsize_map (fun _ => rfl) | exact dsize_its (fun _ => rfl) | (simp only [LENS]; omega) | (simp; done) | decide))
      | (intro hfact)
      | (refine Drawn.mk (by kernel_rfl) (by repeat' ((conv => whnf); first | exact True.intro | refine And.intro ?_ ?_ | rfl | (dsimp only [eyeP, eyeO, eyeR, eyeH, seen]; rfl))) (fun hfact => ?_); (try simp only [List.mem_append, List.mem_cons, List.not_mem_nil, or_false, false_or, or_assoc, forall_eq_or_imp, forall_eq, false_implies, implies_true, forall_const, and_true, true_and] at hfact))
      | (refine CallWp.mk ⟨_, cp, ?_⟩; rintro _ _ ⟨rfl, rfl⟩)
      | ((try dsimp only); rw [hw])
      | (refine CallIs.mk ⟨_, _, t1, ?_⟩)
      | (refine CallIs.mk ⟨_, _, u1, ?_⟩)
      | (refine CallIs.mk ⟨_, _, x1, ?_⟩)
      | (refine CallIs.mk ⟨_, _, hh, ?_⟩)
      | ((first | with_reducible apply wq_eq | with_reducible apply wz_eq | ((first | with_reducible apply at_eyeP | with_reducible apply at_eyeH); (focus rfl))); (focus (simp only [D.at, D.put, D.kid, D.setKid, List.cons_append, List.nil_append, List.append, List.getElem?_cons_zero, List.getElem?_cons_succ, Int.toNat_natCast, List.getElem?_set_self', Option.map_eq_map, Option.map_some, List.set_cons_zero, List.set_cons_succ, List.set_set, Function.const_apply, List.map_cons, List.map_nil, mkSt, allIt, D.toI, toIs, toIs_its, List.getElem?_map, List.length_map, List.length_set, hju] <;> exact rfl)); (try (focus exact rfl))))
    all_goals (try (conv => whnf))
    all_goals clear h hju
    all_goals (refine Done.mk ⟨?_, by kernel_rfl⟩ (by kernel_rfl))
    all_goals (try simp only [wordM, h', hj0])
    all_goals (try simp only [wordM, h', hj0, *, if_true, if_false, Bool.false_eq_true, Bool.true_eq_false, Bool.not_true, Bool.not_false, decide_true, decide_false, not_true_eq_false, not_false_eq_true, ne_eq, reduceIte])
    all_goals (try simp only [resD, frzSV, I.put, List.replicate_succ, List.replicate_zero, toIs, D.toI, toIs_its, toIs_set, List.map_cons, List.map_nil, List.set_cons_zero, List.set_cons_succ, mkSt, allIt, List.map_set, Int.toNat_natCast, rols_toI, Roll.toI, Usr.toI])
    all_goals (try rfl)
end Go.Ab

