/- One text of the proof whose last text says what is proved. -/
import Derived.Test.YtoombangidlpjaaA10
import Derived.Test.YtoombangidlpjaaAb21c
import Derived.Test.YtoombangidlpjaaAb19d
import Derived.Test.YtoombangidlpjaaA0b
set_option linter.unusedVariables false
set_option linter.unusedSimpArgs false
set_option maxRecDepth 100000
set_option maxHeartbeats 8000000
namespace Go.Ab
open Go.Proofs

abbrev Usr.toD (u : Usr) : D := .st [.it (.str u.name), .it (.str u.ten), .it (.str u.salt), .it (.str u.hash), .vec T_string 1 ((u.roles.map I.str).map D.it)]
abbrev Rol.toD (x : Rol) : D := .st [.it (.str x.name), .it (.str x.ten), .vec T_api_Grant 4 ((x.grants.map Gra.toI).map D.it)]
abbrev Roll.toD (r : Roll) : D := .st [.it (.int .i64 r.rev), .vec T_api_Tenant 3 ((r.tens.map Ten.toI).map D.it), .vec T_api_User 5 (r.usrs.map Usr.toD), .vec T_api_Role 3 (r.rols.map Rol.toD)]
structure Roll.Small (r : Roll) : Prop where
  hT : r.tens.length ≤ 1000
  hU : r.usrs.length ≤ 1000
  hX : r.rols.length ≤ 1000
  hR : ∀ u ∈ r.usrs, u.roles.length ≤ 1000
  hG : ∀ x ∈ r.rols, x.grants.length ≤ 1000
def appStep {α : Type} (s : List α) (e : α) : List α ⊕ List α := .inl (s ++ [e])
def appFin {α : Type} (s : List α) : List α := s
theorem app_run {α : Type} : ∀ (l o : List α), runL appStep appFin l o = o ++ l
  | [], o => by simp [runL, appFin]
  | a :: r, o => by rw [runL_cons]; simp [appStep, aft, app_run r]
theorem spec_copy (r : Roll) (hs : r.Small) : Fn Try.prog F_exchequerref15_Copy [.v r.toI] (Is (.own [] r.toD) [.no]) := by
  refine ofd_exchequerref15_Copy ?_ (by simp)
  obtain ⟨b1, b2, b3, b4, b5⟩ := hs
  repeat' ((conv => whnf); first
    | (refine And.intro (fun hb => ?_) (fun hb => ?_) <;> first | (exact absurd hb (by first | assumption | decide)) | (with_reducible exact absurd hb Bool.false_ne_true) | (with_reducible exact absurd hb.symm Bool.false_ne_true) | (exfalso; first | (simp only [LENS] at hb <;> omega) | omega) | ((try rw [hb]); (try simp only [NRMS] at hb); (try subst hb)))
    | (refine Exists.intro ?_ ?_; focus (and_intros <;> first | omega | exact rfl | assumption | (intro _ hh; cases hh; done) | exact all_size (by rfl) | exact size_map (fun _ => rfl) | exact size_one rfl | exact take_size (fun _ => rfl) | exact dsize_one rfl | exact dsize_map (fun _ => rfl) | exact dsize_its (fun _ => rfl) | (simp only [LENS]; omega) | (simp; done) | decide))
    | (intro hfact)
    | ((with_reducible apply Drawn.by0); (focus kernel_rfl); intro hfact; (try simp only [List.mem_append, List.mem_cons, List.not_mem_nil, or_false, false_or, or_assoc, forall_eq_or_imp, forall_eq, false_implies, implies_true, forall_const, and_true, true_and] at hfact)))
  all_goals (try (conv => whnf))
  have hm : r.usrs.length ≤ maxLen := by simp only [maxLen]; omega
  have hAns : runL appStep appFin r.usrs [] = r.usrs := app_run _ _
  refine each (r.usrs) _ _ _ (fun k s => [(3, .own [] (.ptr (.st [.it (.int .i64 r.rev), .vec T_api_Tenant 3 ((r.tens.map Ten.toI).map D.it), .vec T_api_User 5 (s.map Usr.toD), .vec T_api_Role 3 []]))), (4, .v (.int .i64 k))]) (fun k s => s.length ≤ k) [] (by kernel_rfl) (by simp) hAns ?_ ?_ <;> clear hAns
  · rintro k s e he hk hi hA
    dsimp only at hi hA ⊢
    have hbl := b4 e (List.mem_of_getElem? he)
    repeat' ((conv => whnf); first
      | (refine And.intro (fun hb => ?_) (fun hb => ?_) <;> first | (exact absurd hb (by first | assumption | decide)) | (with_reducible exact absurd hb Bool.false_ne_true) | (with_reducible exact absurd hb.symm Bool.false_ne_true) | (exfalso; first | (simp only [LENS] at hb <;> omega) | omega) | ((try rw [hb]); (try simp only [NRMS] at hb); (try subst hb)))
      | (refine Exists.intro ?_ ?_; focus (and_intros <;> first | omega | exact rfl | assumption | (intro _ hh; cases hh; done) | exact all_size (by rfl) | exact size_map (fun _ => rfl) | exact size_one rfl | exact take_size (fun _ => rfl) | exact dsize_one rfl | exact dsize_map (fun _ => rfl) | exact dsize_its (fun _ => rfl) | (simp only [LENS]; omega) | (simp; done) | decide))
      | (intro hfact)
      | ((with_reducible apply Drawn.by0); (focus kernel_rfl); intro hfact; (try simp only [List.mem_append, List.mem_cons, List.not_mem_nil, or_false, false_or, or_assoc, forall_eq_or_imp, forall_eq, false_implies, implies_true, forall_const, and_true, true_and] at hfact))
      | ((try dsimp only); first | rw [map_get he] | rw [map_getD he] | rw [map_getN he]))
    all_goals (try (conv => whnf))
    all_goals first
      | (simp [-List.append_assoc, appStep, *] at hA
         first
         | (refine RoundE.aft hA ?_ ?_
            · (try dsimp only); (try rw [wrap_succ hk hm]); (try simp only [List.map_append, List.map_cons, List.map_nil])
              show norm _ _ = upd _ _
              kernel_rfl
            · first | trivial | omega | ((try dsimp only); simp only [LENS]; omega) | ((try dsimp only); (try simp at *); omega))
         | (refine Done.mk ⟨?_, by kernel_rfl⟩ (by kernel_rfl)
            have hA' := hA
            first | (rw [← hA']; first | rfl | kernel_rfl | (simp only [List.map_append, List.map_cons, List.map_nil]; first | rfl | kernel_rfl)) | (rw [← aft_inr hA']; first | rfl | kernel_rfl | (simp only [List.map_append, List.map_cons, List.map_nil]; first | rfl | kernel_rfl)) | (simp at hA' ⊢; simp [*]; done))
        )
  · rintro s k rfl hi hA
    dsimp only at hi hA ⊢
    repeat' ((conv => whnf); first
      | (refine And.intro (fun hb => ?_) (fun hb => ?_) <;> first | (exact absurd hb (by first | assumption | decide)) | (with_reducible exact absurd hb Bool.false_ne_true) | (with_reducible exact absurd hb.symm Bool.false_ne_true) | (exfalso; first | (simp only [LENS] at hb <;> omega) | omega) | ((try rw [hb]); (try simp only [NRMS] at hb); (try subst hb)))
      | (refine Exists.intro ?_ ?_; focus (and_intros <;> first | omega | exact rfl | assumption | (intro _ hh; cases hh; done) | exact all_size (by rfl) | exact size_map (fun _ => rfl) | exact size_one rfl | exact take_size (fun _ => rfl) | exact dsize_one rfl | exact dsize_map (fun _ => rfl) | exact dsize_its (fun _ => rfl) | (simp only [LENS]; omega) | (simp; done) | decide))
      | (intro hfact)
      | ((with_reducible apply Drawn.by0); (focus kernel_rfl); intro hfact; (try simp only [List.mem_append, List.mem_cons, List.not_mem_nil, or_false, false_or, or_assoc, forall_eq_or_imp, forall_eq, false_implies, implies_true, forall_const, and_true, true_and] at hfact)))
    all_goals (try (conv => whnf))
    obtain rfl : s = r.usrs := hA
    clear hm
    have hm : r.rols.length ≤ maxLen := by simp only [maxLen]; omega
    have hAns : runL appStep appFin r.rols [] = r.rols := app_run _ _
    refine each (r.rols) _ _ _ (fun k s => [(3, .own [] (.ptr (.st [.it (.int .i64 r.rev), .vec T_api_Tenant 3 ((r.tens.map Ten.toI).map D.it), .vec T_api_User 5 (r.usrs.map Usr.toD), .vec T_api_Role 3 (s.map Rol.toD)]))), (6, .v (.int .i64 k))]) (fun k s => s.length ≤ k) [] (by kernel_rfl) (by simp) hAns ?_ ?_ <;> clear hAns
    · rintro k s e he hk hi hA
      dsimp only at hi hA ⊢
      have hbl := b5 e (List.mem_of_getElem? he)
      repeat' ((conv => whnf); first
        | (refine And.intro (fun hb => ?_) (fun hb => ?_) <;> first | (exact absurd hb (by first | assumption | decide)) | (with_reducible exact absurd hb Bool.false_ne_true) | (with_reducible exact absurd hb.symm Bool.false_ne_true) | (exfalso; first | (simp only [LENS] at hb <;> omega) | omega) | ((try rw [hb]); (try simp only [NRMS] at hb); (try subst hb)))
        | (refine Exists.intro ?_ ?_; focus (and_intros <;> first | omega | exact rfl | assumption | (intro _ hh; cases hh; done) | exact all_size (by rfl) | exact size_map (fun _ => rfl) | exact size_one rfl | exact take_size (fun _ => rfl) | exact dsize_one rfl | exact dsize_map (fun _ => rfl) | exact dsize_its (fun _ => rfl) | (simp only [LENS]; omega) | (simp; done) | decide))
        | (intro hfact)
        | ((with_reducible apply Drawn.by0); (focus kernel_rfl); intro hfact; (try simp only [List.mem_append, List.mem_cons, List.not_mem_nil, or_false, false_or, or_assoc, forall_eq_or_imp, forall_eq, false_implies, implies_true, forall_const, and_true, true_and] at hfact))
        | ((try dsimp only); first | rw [map_get he] | rw [map_getD he] | rw [map_getN he]))
      all_goals (try (conv => whnf))
      all_goals first
        | (simp [-List.append_assoc, appStep, *] at hA
           first
           | (refine RoundE.aft hA ?_ ?_
              · (try dsimp only); (try rw [wrap_succ hk hm]); (try simp only [List.map_append, List.map_cons, List.map_nil])
                show norm _ _ = upd _ _
                kernel_rfl
              · first | trivial | omega | ((try dsimp only); simp only [LENS]; omega) | ((try dsimp only); (try simp at *); omega))
           | (refine Done.mk ⟨?_, by kernel_rfl⟩ (by kernel_rfl)
              have hA' := hA
              first | (rw [← hA']; first | rfl | kernel_rfl | (simp only [List.map_append, List.map_cons, List.map_nil]; first | rfl | kernel_rfl)) | (rw [← aft_inr hA']; first | rfl | kernel_rfl | (simp only [List.map_append, List.map_cons, List.map_nil]; first | rfl | kernel_rfl)) | (simp at hA' ⊢; simp [*]; done))
          )
    · rintro s k rfl hi hA
      dsimp only at hi hA ⊢
      repeat' ((conv => whnf); first
        | (refine And.intro (fun hb => ?_) (fun hb => ?_) <;> first | (exact absurd hb (by first | assumption | decide)) | (with_reducible exact absurd hb Bool.false_ne_true) | (with_reducible exact absurd hb.symm Bool.false_ne_true) | (exfalso; first | (simp only [LENS] at hb <;> omega) | omega) | ((try rw [hb]); (try simp only [NRMS] at hb); (try subst hb)))
        | (refine Exists.intro ?_ ?_; focus (and_intros <;> first | omega | exact rfl | assumption | (intro _ hh; cases hh; done) | exact all_size (by rfl) | exact size_map (fun _ => rfl) | exact size_one rfl | exact take_size (fun _ => rfl) | exact dsize_one rfl | exact dsize_map (fun _ => rfl) | exact dsize_its (fun _ => rfl) | (simp only [LENS]; omega) | (simp; done) | decide))
        | (intro hfact)
        | ((with_reducible apply Drawn.by0); (focus kernel_rfl); intro hfact; (try simp only [List.mem_append, List.mem_cons, List.not_mem_nil, or_false, false_or, or_assoc, forall_eq_or_imp, forall_eq, false_implies, implies_true, forall_const, and_true, true_and] at hfact)))
      all_goals (try (conv => whnf))
      obtain rfl : s = r.rols := hA
      exact Done.mk ⟨by kernel_rfl, by kernel_rfl⟩ (by kernel_rfl)
end Go.Ab


set_option maxRecDepth 100000
set_option maxHeartbeats 40000000
namespace Go.Ab
open Go.Proofs

structure Cmd where
  (client seq : Int) (token : Str) (kind : Int) (name other word salt : Str) (bytes keys : Int) (grant : Gra) (rev : Int) (ifs thn els : List I)
abbrev Cmd.toI (c : Cmd) : I := .agg [.int .i64 c.client, .int .i64 c.seq, .str c.token, .int .i64 c.kind, .str c.name, .str c.other, .str c.word, .str c.salt, .int .i64 c.bytes, .int .i64 c.keys, c.grant.toI, .int .i64 c.rev, .list c.ifs, .list c.thn, .list c.els]
def IsF (x : List I) (outs : List SV) (r : SV) (as1 : List SV) : Prop := frzSV r = some (.tup (x.map F.i)) ∧ as1 = outs
theorem Fn.isF {P : Program} {f : FuncId} {args : List SV} {x : List I} {outs : List SV} (h : Fn P f args (IsF x outs)) : Fn P f args (Is (.tup (x.map F.i)) outs) :=
  Fn.frz h fun _ _ ⟨h1, h2⟩ => ⟨_, h1, rfl, h2⟩
theorem usrs_toI (l : List Usr) : toIs (l.map Usr.toD) = some (l.map Usr.toI) := toIs_map (fun x => by simp [D.toI, toIs, toIs_its, -List.map_map]) l
theorem rols_toI (l : List Rol) : toIs (l.map Rol.toD) = some (l.map Rol.toI) := toIs_map (fun x => by simp [D.toI, toIs, toIs_its, -List.map_map]) l
/-- A user gets a role, or it is taken. -/
def haveM (r : Roll) (c : Cmd) : Roll × Int :=
  if r.usrAt c.name < 0 then (r, 16)
  else match r.usrs[(r.usrAt c.name).toNat]? with
  | none => (r, 16)
  | some u =>
    if c.kind = 14 then
      if u.roles.any (fun e => decide (e = c.other)) then ({ r with rev := r.rev + 1, usrs := r.usrs.set (r.usrAt c.name).toNat { u with roles := u.roles.filter fun e => !decide (e = c.other) } }, 0)
      else (r, 16)
    else if r.rolAt c.other < 0 then (r, 16)
    else match r.rols[(r.rolAt c.other).toNat]? with
      | none => (r, 16)
      | some x =>
        if x.ten ≠ u.ten then (r, 18)
        else if u.roles.any (fun e => decide (e = c.other)) then (r, 15)
        else if 4 ≤ (u.roles.length : Int) then (r, 17)
        else ({ r with rev := r.rev + 1, usrs := r.usrs.set (r.usrAt c.name).toNat { u with roles := insBy (fun e => decide (c.other < e)) c.other u.roles } }, 0)
abbrev Roll.toN (r : Roll) : D := .st [.it (.int .i64 r.rev), .vec T_api_Tenant 3 ((r.tens.map Ten.toI).map D.it), .vec T_api_User 5 ((r.usrs.map Usr.toI).map D.it), .vec T_api_Role 3 (r.rols.map Rol.toD)]
theorem frz_usr (u : Usr) : Frz u.toD (.it u.toI) := by simp [Frz, D.toI, toIs, toIs_its, -List.map_map]
theorem frz_rolD (x : Rol) : Frz x.toD x.toD := by
  simp only [Frz, Frzs, D.toI, true_and, and_true]
  exact frzs_its _
theorem spec_copyN (r : Roll) (hs : r.Small) : Fn Try.prog F_exchequerref15_Copy [.v r.toI] (Is (.own [] r.toN) [.no]) := by
  refine (spec_copy r hs).part ?_
  rintro _ _ ⟨rfl, rfl⟩
  refine ⟨[], _, r.toN, rfl, ?_, rfl, rfl⟩
  simp only [Frz, Frzs, D.toI, true_and, and_true]
  refine ⟨frzs_its _, ?_, frzs_map frz_rolD _⟩
  rw [List.map_map]
  exact frzs_map frz_usr _
theorem toIs_set {l : List I} {j : Nat} {y : I} : toIs ((l.map D.it).set j (D.it y)) = some (l.set j y) := by
  rw [← List.map_set]
  exact toIs_its _
theorem spec_having (r : Roll) (hs : r.Small) (c : Cmd) : Fn Try.prog F_exchequerref15_having [.v r.toI, .own [] { r with rev := r.rev + 1 }.toN, .v c.toI, .v (.int .i64 (r.usrAt c.name))]
    (Is (.tup [.i (haveM r c).1.toI, .i (.int .i64 (haveM r c).2)]) [.no, .no, .no, .no]) := by
  refine Fn.isF (x := [(haveM r c).1.toI, .int .i64 (haveM r c).2]) ?_
  refine ofd_exchequerref15_having ?_ (by simp)
  obtain ⟨b1, b2, b3, b4, b5⟩ := hs
  rcases findAt_bound (fun t : Usr => decide (t.name = c.name)) 0 r.usrs with h | ⟨j, h, hj, u, hju, hun⟩
  · have h' : r.usrAt c.name = -1 := h
    rw [h']
    repeat' ((conv => whnf); first
      | (refine And.intro (fun hb => ?_) (fun hb => ?_) <;> first | (exact absurd hb (by first | assumption | decide)) | (with_reducible exact absurd hb Bool.false_ne_true) | (with_reducible exact absurd hb.symm Bool.false_ne_true) | (exfalso; first | (simp only [LENS] at hb <;> omega) | omega) | ((try rw [hb]); (try simp only [NRMS] at hb); (try subst hb)))
      | (refine Exists.intro ?_ ?_; focus (and_intros <;> first | omega | exact rfl | assumption | (intro _ hh; cases hh; done) | exact all_size (by rfl) | exact size_map (fun _ => rfl) | exact size_one rfl | exact take_size (fun _ => rfl) | exact dsize_one rfl | exact dsize_map (fun _ => rfl) | exact dsize_its (fun _ => rfl) | (simp only [LENS]; omega) | (simp; done) | decide))
      | (intro hfact)
      | ((with_reducible apply Drawn.by0); (focus kernel_rfl); intro hfact; (try simp only [List.mem_append, List.mem_cons, List.not_mem_nil, or_false, false_or, or_assoc, forall_eq_or_imp, forall_eq, false_implies, implies_true, forall_const, and_true, true_and] at hfact)))
    all_goals (try (conv => whnf))
    all_goals (refine Done.mk ⟨?_, by kernel_rfl⟩ (by kernel_rfl))
    all_goals (try simp only [haveM, h'])
    all_goals (try simp only [haveM, h', *, if_true, if_false, Bool.false_eq_true, Bool.true_eq_false, Bool.not_true, Bool.not_false, decide_true, decide_false, not_true_eq_false, not_false_eq_true, ne_eq, reduceIte])
    all_goals (try simp only [resD, frzSV, I.put, List.replicate_succ, List.replicate_zero, toIs, D.toI, toIs_its, toIs_set, List.map_cons, List.map_nil, List.set_cons_zero, List.set_cons_succ, mkSt, allIt, List.map_set, Int.toNat_natCast])
    all_goals (try rfl)
  · have h' : r.usrAt c.name = (j : Int) := by rw [show r.usrAt c.name = ((0 + j : Nat) : Int) from h, Nat.zero_add]
    rw [h']
    have hul := b4 u (List.mem_of_getElem? hju)
    have g1 := spec_has u.roles c.other (by omega)
    have g2 := spec_without u.roles c.other (by omega)
    have g3 := spec_texts u.roles c.other (by omega)
    have g4 := spec_RoleAt r c.other (by omega)
    have hj0 : r.usrs[Int.toNat (j : Int)]? = some u := hju
    rcases findAt_bound (fun t : Rol => decide (t.name = c.other)) 0 r.rols with hx | ⟨k, hx, hk, x, hkx, hxn⟩
    · have hx' : r.rolAt c.other = -1 := hx
      rw [hx'] at g4
      repeat' ((conv => whnf); first
        | (refine And.intro (fun hb => ?_) (fun hb => ?_) <;> first | (exact absurd hb (by first | assumption | decide)) | (with_reducible exact absurd hb Bool.false_ne_true) | (with_reducible exact absurd hb.symm Bool.false_ne_true) | (exfalso; first | (simp only [LENS] at hb <;> omega) | omega) | ((try rw [hb]); (try simp only [NRMS] at hb); (try subst hb)))
        | (refine Exists.intro ?_ ?_; focus (and_intros <;> first | omega | exact rfl | assumption | (intro _ hh; cases hh; done) | exact all_size (by rfl) | exact size_map (fun _ => rfl) | exact size_one rfl | exact take_size (fun _ => rfl) | exact dsize_one rfl | exact dsize_map (fun _ => rfl) | exact dsize_its (fun _ => rfl) | (simp only [LENS]; omega) | (simp; done) | decide))
        | (intro hfact)
        | ((with_reducible apply Drawn.by0); (focus kernel_rfl); intro hfact; (try simp only [List.mem_append, List.mem_cons, List.not_mem_nil, or_false, false_or, or_assoc, forall_eq_or_imp, forall_eq, false_implies, implies_true, forall_const, and_true, true_and] at hfact))
        | ((try dsimp only); first | rw [map_get hju] | rw [map_getD hju] | rw [map_getN hju])
        | (refine CallWp.mk ⟨_, g1, ?_⟩; rintro _ _ ⟨rfl, rfl⟩)
        | (refine CallIs.mk ⟨_, _, g2, ?_⟩)
        | (refine CallWp.mk ⟨_, g4, ?_⟩; rintro _ _ ⟨rfl, rfl⟩)
        | ((first | with_reducible apply wq_eq | with_reducible apply wz_eq | ((first | with_reducible apply at_eyeP | with_reducible apply at_eyeH); (focus rfl))); (focus (simp only [D.at, D.put, D.kid, D.setKid, List.cons_append, List.nil_append, List.append, List.getElem?_cons_zero, List.getElem?_cons_succ, Int.toNat_natCast, List.getElem?_set_self', Option.map_eq_map, Option.map_some, List.set_cons_zero, List.set_cons_succ, List.set_set, Function.const_apply, List.map_cons, List.map_nil, mkSt, allIt, D.toI, toIs, toIs_its, List.getElem?_map, List.length_map, List.length_set, hju] <;> exact rfl)); (try (focus exact rfl))))
      all_goals (try (conv => whnf))
      all_goals clear hju h hx
      all_goals (refine Done.mk ⟨?_, by kernel_rfl⟩ (by kernel_rfl))
      all_goals (try simp only [haveM, h', hj0])
      all_goals (try simp only [haveM, h', hj0, *, if_true, if_false, Bool.false_eq_true, Bool.true_eq_false, Bool.not_true, Bool.not_false, decide_true, decide_false, not_true_eq_false, not_false_eq_true, ne_eq, reduceIte])
      all_goals (try simp only [resD, frzSV, I.put, List.replicate_succ, List.replicate_zero, toIs, D.toI, toIs_its, toIs_set, List.map_cons, List.map_nil, List.set_cons_zero, List.set_cons_succ, mkSt, allIt, List.map_set, Int.toNat_natCast, rols_toI, Roll.toI, Usr.toI])
      all_goals (try rfl)
    · have hx' : r.rolAt c.other = (k : Int) := by rw [show r.rolAt c.other = ((0 + k : Nat) : Int) from hx, Nat.zero_add]
      rw [hx'] at g4
      have hk0 : r.rols[Int.toNat (k : Int)]? = some x := hkx
      repeat' ((conv => whnf); first
        | (refine And.intro (fun hb => ?_) (fun hb => ?_) <;> first | (exact absurd hb (by first | assumption | decide)) | (with_reducible exact absurd hb Bool.false_ne_true) | (with_reducible exact absurd hb.symm Bool.false_ne_true) | (exfalso; first | (simp only [LENS] at hb <;> omega) | omega) | ((try rw [hb]); (try simp only [NRMS] at hb); (try subst hb)))
        | (refine Exists.intro ?_ ?_; focus (and_intros <;> first | omega | exact rfl | assumption | (intro _ hh; cases hh; done) | exact all_size (by rfl) | exact size_map (fun _ => rfl) | exact size_one rfl | exact take_size (fun _ => rfl) | exact dsize_one rfl | exact dsize_map (fun _ => rfl) | exact dsize_its (fun _ => rfl) | (simp only [LENS]; omega) | (simp; done) | decide))
        | (intro hfact)
        | ((with_reducible apply Drawn.by0); (focus kernel_rfl); intro hfact; (try simp only [List.mem_append, List.mem_cons, List.not_mem_nil, or_false, false_or, or_assoc, forall_eq_or_imp, forall_eq, false_implies, implies_true, forall_const, and_true, true_and] at hfact))
        | ((try dsimp only); first | rw [map_get hju] | rw [map_getD hju] | rw [map_getN hju])
        | ((try dsimp only); first | rw [map_get hkx] | rw [map_getD hkx] | rw [map_getN hkx])
        | (refine CallWp.mk ⟨_, g1, ?_⟩; rintro _ _ ⟨rfl, rfl⟩)
        | (refine CallIs.mk ⟨_, _, g2, ?_⟩)
        | (refine CallIs.mk ⟨_, _, g3, ?_⟩)
        | (refine CallWp.mk ⟨_, g4, ?_⟩; rintro _ _ ⟨rfl, rfl⟩)
        | ((first | with_reducible apply wq_eq | with_reducible apply wz_eq | ((first | with_reducible apply at_eyeP | with_reducible apply at_eyeH); (focus rfl))); (focus (simp only [D.at, D.put, D.kid, D.setKid, List.cons_append, List.nil_append, List.append, List.getElem?_cons_zero, List.getElem?_cons_succ, Int.toNat_natCast, List.getElem?_set_self', Option.map_eq_map, Option.map_some, List.set_cons_zero, List.set_cons_succ, List.set_set, Function.const_apply, List.map_cons, List.map_nil, mkSt, allIt, D.toI, toIs, toIs_its, List.getElem?_map, List.length_map, List.length_set, hju, hkx] <;> exact rfl)); (try (focus exact rfl))))
      all_goals (try (conv => whnf))
      all_goals clear hju h hx hkx
      all_goals (refine Done.mk ⟨?_, by kernel_rfl⟩ (by kernel_rfl))
      all_goals (try simp only [haveM, h', hj0, hk0])
      all_goals (try simp only [haveM, h', hj0, hk0, *, if_true, if_false, Bool.false_eq_true, Bool.true_eq_false, Bool.not_true, Bool.not_false, decide_true, decide_false, not_true_eq_false, not_false_eq_true, ne_eq, reduceIte])
      all_goals (try simp only [resD, frzSV, I.put, List.replicate_succ, List.replicate_zero, toIs, D.toI, toIs_its, toIs_set, List.map_cons, List.map_nil, List.set_cons_zero, List.set_cons_succ, mkSt, allIt, List.map_set, Int.toNat_natCast, rols_toI, Roll.toI, Usr.toI])
      all_goals (try rfl)
end Go.Ab

