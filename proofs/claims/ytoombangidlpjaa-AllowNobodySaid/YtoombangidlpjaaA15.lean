/- One text of the proof whose last text says what is proved. -/
import Derived.Test.YtoombangidlpjaaA13e
import Derived.Test.YtoombangidlpjaaA13f
import Derived.Test.YtoombangidlpjaaR14
set_option linter.unusedVariables false
set_option linter.unusedSimpArgs false
set_option maxRecDepth 100000
set_option maxHeartbeats 4000000
namespace Go.Ab
open Go.Proofs

/-- The roll that a request makes, by the document. -/
def doM (r : Roll) (c : Cmd) : Roll × Int :=
  if c.kind < 4 ∨ 14 < c.kind then (r, 1)
  else if 1099511627776 ≤ r.rev then (r, 17)
  else if c.kind = 4 then tenantM r c
  else if c.kind = 5 then quotaM r c
  else if c.kind = 6 then userM r c
  else if c.kind = 7 then wordM r c
  else if c.kind = 8 then leaveM r c
  else if c.kind = 9 then roleM r c
  else if c.kind = 10 then dropM r c
  else if c.kind = 11 then grantM r c
  else if c.kind = 12 then revokeM r c
  else haveM r c
theorem spec_do (r : Roll) (hs : r.Small) (c : Cmd) (hrev : -9223372036854775808 ≤ r.rev ∧ r.rev ≤ 9223372036854775806) (hws : c.word.length ≤ 1000000 ∧ c.salt.length ≤ 1000000) :
    Fn Try.prog F_exchequerref15_Do [.v r.toI, .v c.toI] (Is (.tup [.i (doM r c).1.toI, .i (.int .i64 (doM r c).2)]) [.no, .no]) := by
  unfold doM
  split
  · rename_i h; exact spec_do_bad r hs c hrev h
  rename_i h
  have h1 : 4 ≤ c.kind ∧ c.kind ≤ 14 := by omega
  split
  · rename_i h2; exact spec_do_old r hs c hrev h1 h2
  rename_i h2
  have hr : -9223372036854775808 ≤ r.rev ∧ r.rev < 1099511627776 := by omega
  split
  · rename_i hk; exact spec_do_tenant r hs c hr hk
  split
  · rename_i hk; exact spec_do_quota r hs c hr hk
  split
  · rename_i hk; exact spec_do_user r hs c hr hk hws
  split
  · rename_i hk; exact spec_do_word r hs c hr hk hws
  split
  · rename_i hk; exact spec_do_leave r hs c hr hk
  split
  · rename_i hk; exact spec_do_role r hs c hr hk
  split
  · rename_i hk; exact spec_do_drop r hs c hr hk
  split
  · rename_i hk; exact spec_do_grant r hs c hr hk
  split
  · rename_i hk; exact spec_do_revoke r hs c hr hk
  · exact spec_do_have r hs c hr (by omega)
end Go.Ab


set_option maxRecDepth 100000
set_option maxHeartbeats 40000000
namespace Go.Ab
open Go.Proofs

/-- What a roll may have. -/
structure Roll.Fit (r : Roll) : Prop where
  hV : 1 ≤ r.rev ∧ r.rev ≤ 1099511627776
  hT : r.tens.length ≤ 8
  hU : r.usrs.length ≤ 16
  hX : r.rols.length ≤ 16
  hR : ∀ u ∈ r.usrs, u.roles.length ≤ 4
  hG : ∀ x ∈ r.rols, x.grants.length ≤ 8
theorem Roll.Fit.small {r : Roll} (h : r.Fit) : r.Small :=
  ⟨by have := h.hT; omega, by have := h.hU; omega, by have := h.hX; omega, fun u hu => by have := h.hR u hu; omega, fun x hx => by have := h.hG x hx; omega⟩
def grantsOf (r : Roll) (n : Str) : List Gra :=
  if r.rolAt n < 0 then [] else match r.rols[(r.rolAt n).toNat]? with
  | some x => x.grants
  | none => []
def gsel (w : Bool) (g : Gra) : Bool := if w then g.w else g.r
def spansOf (r : Roll) (w : Bool) (n : Str) : List Sp := ((grantsOf r n).filter (gsel w)).map Gra.sp
def rolesOf (r : Roll) (u : Str) : List Str :=
  if r.usrAt u < 0 then [] else match r.usrs[(r.usrAt u).toNat]? with
  | some x => x.roles
  | none => []
def allM (r : Roll) (u : Str) (w : Bool) : List Sp := (rolesOf r u).flatMap (spansOf r w)
theorem foldl_app {α β : Type} (f : α → List β) : ∀ (l : List α) (o : List β), l.foldl (fun o a => o ++ f a) o = o ++ l.flatMap f
  | [], o => by simp
  | a :: r, o => by rw [List.foldl_cons, foldl_app f r]; simp
theorem foldl_sel {α β : Type} (p : α → Bool) (f : α → β) : ∀ (l : List α) (o : List β), l.foldl (fun o a => if p a then o ++ [f a] else o) o = o ++ (l.filter p).map f
  | [], o => by simp
  | a :: r, o => by
    rw [List.foldl_cons, foldl_sel p f r]
    by_cases h : p a = true <;> simp [h]
theorem sel_len (b : Bool) (s : List Sp) (x : Sp) : (if b = true then s ++ [x] else s).length ≤ s.length + 1 := by
  split <;> simp
theorem grantsOf_length {r : Roll} (h : r.Fit) (n : Str) : (grantsOf r n).length ≤ 8 := by
  unfold grantsOf
  split
  · simp
  split
  · rename_i x hx; exact h.hG x (List.mem_of_getElem? hx)
  · simp
theorem spansOf_length {r : Roll} (h : r.Fit) (w : Bool) (n : Str) : (spansOf r w n).length ≤ 8 := by
  unfold spansOf
  rw [List.length_map]
  exact Nat.le_trans (List.length_filter_le _ _) (grantsOf_length h n)
theorem flat_len2 {α β : Type} {f : α → List β} {n : Nat} (h : ∀ a, (f a).length ≤ n) : ∀ l : List α, (l.flatMap f).length ≤ l.length * n
  | [] => by simp
  | a :: l => by
    have := h a
    have := flat_len2 h l
    simp only [List.flatMap_cons, List.length_append, List.length_cons, Nat.add_mul, Nat.one_mul]
    omega
theorem rolesOf_length {r : Roll} (h : r.Fit) (n : Str) : (rolesOf r n).length ≤ 4 := by
  unfold rolesOf
  split
  · simp
  split
  · rename_i x hx; exact h.hR x (List.mem_of_getElem? hx)
  · simp
theorem allM_length {r : Roll} (h : r.Fit) (u : Str) (w : Bool) : (allM r u w).length ≤ 32 := by
  have h1 := flat_len2 (spansOf_length h w) (rolesOf r u)
  have h2 := rolesOf_length h u
  unfold allM
  omega
theorem spec_all (r : Roll) (hf : r.Fit) (u : Str) (w : Bool) : Fn Try.prog F_exchequerref16_All [.v r.toI, .v (.str u), .v (.bool w)] (Is (.v (.list (sps (allM r u w)))) [.no, .no, .no]) := by
  refine of_exchequerref16_All ?_ (by simp)
  have hb2 := hf.hU
  have hb3 := hf.hX
  have u1 := spec_UserAt r u (by omega)
  rcases findAt_bound (fun t : Usr => decide (t.name = u)) 0 r.usrs with h | ⟨j, h, hj, x, hju, hun⟩
  · have h' : r.usrAt u = -1 := h
    have ha : allM r u w = [] := by unfold allM rolesOf; rw [h']; rfl
    rw [h'] at u1
    rw [ha]
    repeat' ((conv => whnf); first
      | (refine And.intro (fun hb => ?_) (fun hb => ?_) <;> first | (exact absurd hb (by first | assumption | decide)) | (with_reducible exact absurd hb Bool.false_ne_true) | (with_reducible exact absurd hb.symm Bool.false_ne_true) | (exfalso; first | (simp only [LENS] at hb <;> omega) | omega) | ((try rw [hb]); (try simp only [NRMS] at hb); (try subst hb)))
      | (refine Exists.intro ?_ ?_; focus (and_intros <;> first | omega | exact rfl | assumption | (intro _ hh; cases hh; done) | exact all_size (by rfl) | exact size_map (fun _ => rfl) | exact size_one rfl | exact take_size (fun _ => rfl) | exact dsize_one rfl | exact dsize_map (fun _ => rfl) | exact dsize_its (fun _ => rfl) | (simp only [LENS]; omega) | (simp; done) | decide))
      | (intro hfact)
      | ((with_reducible apply Drawn.by0); (focus kernel_rfl); intro hfact; (try simp only [List.mem_append, List.mem_cons, List.not_mem_nil, or_false, false_or, or_assoc, forall_eq_or_imp, forall_eq, false_implies, implies_true, forall_const, and_true, true_and] at hfact))
      | (refine CallWp.mk ⟨_, u1, ?_⟩; rintro _ _ ⟨rfl, rfl⟩))
    all_goals (try (conv => whnf))
    exact Done.mk ⟨rfl, by kernel_rfl⟩ (by kernel_rfl)
  · have h' : r.usrAt u = (j : Int) := by rw [show r.usrAt u = ((0 + j : Nat) : Int) from h, Nat.zero_add]
    have hj0 : r.usrs[Int.toNat (j : Int)]? = some x := hju
    have hro : rolesOf r u = x.roles := by unfold rolesOf; rw [h', hj0]; rfl
    have hxl := hf.hR x (List.mem_of_getElem? hju)
    rw [h'] at u1
    have hAns : runL (foldStep (fun o n => o ++ spansOf r w n)) foldFin x.roles [] = allM r u w := by
      rw [fold_run, foldl_app, allM, hro]; rfl
    have hm : x.roles.length ≤ maxLen := by simp only [maxLen]; omega
    repeat' ((conv => whnf); first
      | (refine And.intro (fun hb => ?_) (fun hb => ?_) <;> first | (exact absurd hb (by first | assumption | decide)) | (with_reducible exact absurd hb Bool.false_ne_true) | (with_reducible exact absurd hb.symm Bool.false_ne_true) | (exfalso; first | (simp only [LENS] at hb <;> omega) | omega) | ((try rw [hb]); (try simp only [NRMS] at hb); (try subst hb)))
      | (refine Exists.intro ?_ ?_; focus (and_intros <;> first | omega | exact rfl | assumption | (intro _ hh; cases hh; done) | exact all_size (by rfl) | exact size_map (fun _ => rfl) | exact size_one rfl | exact take_size (fun _ => rfl) | exact dsize_one rfl | exact dsize_map (fun _ => rfl) | exact dsize_its (fun _ => rfl) | (simp only [LENS]; omega) | (simp; done) | decide))
      | (intro hfact)
      | ((with_reducible apply Drawn.by0); (focus kernel_rfl); intro hfact; (try simp only [List.mem_append, List.mem_cons, List.not_mem_nil, or_false, false_or, or_assoc, forall_eq_or_imp, forall_eq, false_implies, implies_true, forall_const, and_true, true_and] at hfact))
      | (refine CallWp.mk ⟨_, u1, ?_⟩; rintro _ _ ⟨rfl, rfl⟩))
    all_goals (try (conv => whnf))
    refine each x.roles _ _ _ (fun k s => [(7, .vec T_api_Span 2 (sps s)), (9, .v (.int .i64 k))]) (fun k s => s.length ≤ 8 * k) [] (by kernel_rfl) (by simp) hAns ?_ ?_ <;> clear hAns
    · rintro k s e he hk hi hA
      dsimp only at hi hA ⊢
      have x1 := spec_RoleAt r e (by omega)
      have hsl := spansOf_length hf w e
      rcases findAt_bound (fun t : Rol => decide (t.name = e)) 0 r.rols with h2 | ⟨i, h2, hi2, y, hyu, hyn⟩
      · have h2' : r.rolAt e = -1 := h2
        have hsp : spansOf r w e = [] := by unfold spansOf grantsOf; rw [h2']; rfl
        rw [h2'] at x1
        repeat' ((conv => whnf); first
          | (refine And.intro (fun hb => ?_) (fun hb => ?_) <;> first | (exact absurd hb (by first | assumption | decide)) | (with_reducible exact absurd hb Bool.false_ne_true) | (with_reducible exact absurd hb.symm Bool.false_ne_true) | (exfalso; first | (simp only [LENS] at hb <;> omega) | omega) | ((try rw [hb]); (try simp only [NRMS] at hb); (try subst hb)))
          | (refine Exists.intro ?_ ?_; focus (and_intros <;> first | omega | exact rfl | assumption | (intro _ hh; cases hh; done) | exact all_size (by rfl) | exact size_map (fun _ => rfl) | exact size_one rfl | exact take_size (fun _ => rfl) | exact dsize_one rfl | exact dsize_map (fun _ => rfl) | exact dsize_its (fun _ => rfl) | (simp only [LENS]; omega) | (simp; done) | decide))
          | (intro hfact)
          | ((with_reducible apply Drawn.by0); (focus kernel_rfl); intro hfact; (try simp only [List.mem_append, List.mem_cons, List.not_mem_nil, or_false, false_or, or_assoc, forall_eq_or_imp, forall_eq, false_implies, implies_true, forall_const, and_true, true_and] at hfact))
          | ((try dsimp only); first | rw [map_get hju] | rw [map_getD hju] | rw [map_getN hju])
          | ((try dsimp only); first | rw [map_get he] | rw [map_getD he] | rw [map_getN he])
          | (refine CallIs.mk ⟨_, _, x1, ?_⟩))
        all_goals (try (conv => whnf))
        refine RoundE.by (s ++ spansOf r w e) ?_ (by rw [hsp]; simp; omega) hA
        rw [wrap_succ hk hm, hsp, List.append_nil]
        show norm _ _ = upd _ _
        kernel_rfl
      · have h2' : r.rolAt e = (i : Int) := by rw [show r.rolAt e = ((0 + i : Nat) : Int) from h2, Nat.zero_add]
        have hi0 : r.rols[Int.toNat (i : Int)]? = some y := hyu
        have hsp : spansOf r w e = (y.grants.filter (gsel w)).map Gra.sp := by unfold spansOf grantsOf; rw [h2', hi0]; rfl
        have hyl := hf.hG y (List.mem_of_getElem? hyu)
        rw [h2'] at x1
        repeat' ((conv => whnf); first
          | (refine And.intro (fun hb => ?_) (fun hb => ?_) <;> first | (exact absurd hb (by first | assumption | decide)) | (with_reducible exact absurd hb Bool.false_ne_true) | (with_reducible exact absurd hb.symm Bool.false_ne_true) | (exfalso; first | (simp only [LENS] at hb <;> omega) | omega) | ((try rw [hb]); (try simp only [NRMS] at hb); (try subst hb)))
          | (refine Exists.intro ?_ ?_; focus (and_intros <;> first | omega | exact rfl | assumption | (intro _ hh; cases hh; done) | exact all_size (by rfl) | exact size_map (fun _ => rfl) | exact size_one rfl | exact take_size (fun _ => rfl) | exact dsize_one rfl | exact dsize_map (fun _ => rfl) | exact dsize_its (fun _ => rfl) | (simp only [LENS]; omega) | (simp; done) | decide))
          | (intro hfact)
          | ((with_reducible apply Drawn.by0); (focus kernel_rfl); intro hfact; (try simp only [List.mem_append, List.mem_cons, List.not_mem_nil, or_false, false_or, or_assoc, forall_eq_or_imp, forall_eq, false_implies, implies_true, forall_const, and_true, true_and] at hfact))
          | ((try dsimp only); first | rw [map_get hju] | rw [map_getD hju] | rw [map_getN hju])
          | ((try dsimp only); first | rw [map_get he] | rw [map_getD he] | rw [map_getN he])
          | (refine CallIs.mk ⟨_, _, x1, ?_⟩))
        all_goals (try (conv => whnf))
        have hA2 : runL (foldStep (fun o g => if gsel w g then o ++ [Gra.sp g] else o)) foldFin y.grants s = s ++ spansOf r w e := by
          rw [fold_run, foldl_sel, hsp]
        obtain ⟨hko, hmo⟩ : k < x.roles.length ∧ x.roles.length ≤ maxLen := ⟨hk, hm⟩
        refine each y.grants _ _ _ (fun k s => [(7, .vec T_api_Span 2 (sps s)), (11, .v (.int .i64 k))]) (fun k' s' => s'.length ≤ s.length + k') s (by kernel_rfl) (by simp) hA2 ?_ ?_ <;> clear hA2
        · clear hA
          rintro k' s' ⟨sp, rr, ww⟩ hg hk hi' hA
          dsimp only at hi' hA ⊢
          have hm : y.grants.length ≤ maxLen := by simp only [maxLen]; omega
          have hle := sel_len (gsel w ⟨sp, rr, ww⟩) s' sp
          cases w <;> cases rr <;> cases ww
          all_goals skip
          all_goals (
            repeat' ((conv => whnf); first
              | (refine And.intro (fun hb => ?_) (fun hb => ?_) <;> first | (exact absurd hb (by first | assumption | decide)) | (with_reducible exact absurd hb Bool.false_ne_true) | (with_reducible exact absurd hb.symm Bool.false_ne_true) | (exfalso; first | (simp only [LENS] at hb <;> omega) | omega) | ((try rw [hb]); (try simp only [NRMS] at hb); (try subst hb)))
              | (refine Exists.intro ?_ ?_; focus (and_intros <;> first | omega | exact rfl | assumption | (intro _ hh; cases hh; done) | exact all_size (by rfl) | exact size_map (fun _ => rfl) | exact size_one rfl | exact take_size (fun _ => rfl) | exact dsize_one rfl | exact dsize_map (fun _ => rfl) | exact dsize_its (fun _ => rfl) | (simp only [LENS]; omega) | (simp; done) | decide))
              | (intro hfact)
              | ((with_reducible apply Drawn.by0); (focus kernel_rfl); intro hfact; (try simp only [List.mem_append, List.mem_cons, List.not_mem_nil, or_false, false_or, or_assoc, forall_eq_or_imp, forall_eq, false_implies, implies_true, forall_const, and_true, true_and] at hfact))
              | ((try dsimp only); first | rw [map_get hyu] | rw [map_getD hyu] | rw [map_getN hyu])
              | ((try dsimp only); first | rw [map_get hg] | rw [map_getD hg] | rw [map_getN hg]))
            all_goals (try (conv => whnf)))
          all_goals (refine RoundE.by _ ?_ (Nat.le_trans hle (by omega)) hA)
          all_goals (rw [wrap_succ hk hm]; simp only [gsel, if_true, if_false, Bool.false_eq_true, sps, List.map_append, List.map_cons, List.map_nil])
          all_goals (show norm _ _ = upd _ _; kernel_rfl)
        · rintro s' k' rfl hi' hA'
          dsimp only at hi' hA' ⊢
          obtain rfl : s' = s ++ spansOf r w e := hA'
          repeat' ((conv => whnf); first
            | (refine And.intro (fun hb => ?_) (fun hb => ?_) <;> first | (exact absurd hb (by first | assumption | decide)) | (with_reducible exact absurd hb Bool.false_ne_true) | (with_reducible exact absurd hb.symm Bool.false_ne_true) | (exfalso; first | (simp only [LENS] at hb <;> omega) | omega) | ((try rw [hb]); (try simp only [NRMS] at hb); (try subst hb)))
            | (refine Exists.intro ?_ ?_; focus (and_intros <;> first | omega | exact rfl | assumption | (intro _ hh; cases hh; done) | exact all_size (by rfl) | exact size_map (fun _ => rfl) | exact size_one rfl | exact take_size (fun _ => rfl) | exact dsize_one rfl | exact dsize_map (fun _ => rfl) | exact dsize_its (fun _ => rfl) | (simp only [LENS]; omega) | (simp; done) | decide))
            | (intro hfact)
            | ((with_reducible apply Drawn.by0); (focus kernel_rfl); intro hfact; (try simp only [List.mem_append, List.mem_cons, List.not_mem_nil, or_false, false_or, or_assoc, forall_eq_or_imp, forall_eq, false_implies, implies_true, forall_const, and_true, true_and] at hfact))
            | ((try dsimp only); first | rw [map_get hyu] | rw [map_getD hyu] | rw [map_getN hyu]))
          all_goals (try (conv => whnf))
          refine RoundE.by (s ++ spansOf r w e) ?_ (by simp; omega) hA
          rw [wrap_succ hk hm]
          show norm _ _ = upd _ _
          kernel_rfl
    · rintro s k rfl hi hA
      dsimp only at hi hA ⊢
      obtain rfl : s = allM r u w := hA
      repeat' ((conv => whnf); first
        | (refine And.intro (fun hb => ?_) (fun hb => ?_) <;> first | (exact absurd hb (by first | assumption | decide)) | (with_reducible exact absurd hb Bool.false_ne_true) | (with_reducible exact absurd hb.symm Bool.false_ne_true) | (exfalso; first | (simp only [LENS] at hb <;> omega) | omega) | ((try rw [hb]); (try simp only [NRMS] at hb); (try subst hb)))
        | (refine Exists.intro ?_ ?_; focus (and_intros <;> first | omega | exact rfl | assumption | (intro _ hh; cases hh; done) | exact all_size (by rfl) | exact size_map (fun _ => rfl) | exact size_one rfl | exact take_size (fun _ => rfl) | exact dsize_one rfl | exact dsize_map (fun _ => rfl) | exact dsize_its (fun _ => rfl) | (simp only [LENS]; omega) | (simp; done) | decide))
        | (intro hfact)
        | ((with_reducible apply Drawn.by0); (focus kernel_rfl); intro hfact; (try simp only [List.mem_append, List.mem_cons, List.not_mem_nil, or_false, false_or, or_assoc, forall_eq_or_imp, forall_eq, false_implies, implies_true, forall_const, and_true, true_and] at hfact))
        | ((try dsimp only); first | rw [map_get hju] | rw [map_getD hju] | rw [map_getN hju]))
      all_goals (try (conv => whnf))
      exact Done.mk ⟨rfl, by kernel_rfl⟩ (by kernel_rfl)
end Go.Ab

