/- One text of the proof whose last text says what is proved. -/
import Derived.Test.YtoombangidlpjaaA9
import Derived.Test.YtoombangidlpjaaR2
import Derived.Test.YtoombangidlpjaaAb21c
set_option linter.unusedVariables false
set_option linter.unusedSimpArgs false
set_option maxRecDepth 100000
set_option maxHeartbeats 8000000
namespace Go.Ab
open Go.Proofs

/-- x ahead of the first that is greater. -/
def insBy {α : Type} (gt : α → Bool) (x : α) : List α → List α
  | [] => [x]
  | a :: r => if gt a then x :: a :: r else a :: insBy gt x r
def insStep {α : Type} (gt : α → Bool) (x : α) (s : List α × Bool) (e : α) : (List α × Bool) ⊕ List α :=
  if !s.2 && gt e then .inl (s.1 ++ [x] ++ [e], true) else .inl (s.1 ++ [e], s.2)
def insFin {α : Type} (x : α) (s : List α × Bool) : List α := if s.2 then s.1 else s.1 ++ [x]
theorem ins_run {α : Type} (gt : α → Bool) (x : α) : ∀ (l : List α) (o : List α), runL (insStep gt x) (insFin x) l (o, true) = o ++ l ∧ runL (insStep gt x) (insFin x) l (o, false) = o ++ insBy gt x l
  | [], o => by simp [runL, insFin, insBy]
  | a :: r, o => by
    obtain ⟨h1, _⟩ := ins_run gt x r (o ++ [a])
    obtain ⟨h3, _⟩ := ins_run gt x r (o ++ [x] ++ [a])
    obtain ⟨_, h4⟩ := ins_run gt x r (o ++ [a])
    refine ⟨?_, ?_⟩
    · rw [runL_cons]
      simp only [insStep, Bool.not_true, Bool.false_and, Bool.false_eq_true, if_false, aft]
      rw [h1]; simp
    · rw [runL_cons]
      by_cases hg : gt a = true
      · simp only [insStep, Bool.not_false, Bool.true_and, hg, if_true, aft, insBy]
        rw [h3]; simp
      · simp [insStep, hg, aft, insBy, h4]
theorem insBy_length {α : Type} (gt : α → Bool) (x : α) : ∀ l : List α, (insBy gt x l).length = l.length + 1
  | [] => rfl
  | a :: r => by
    unfold insBy
    split
    · simp
    · simp [insBy_length gt x r]
def anyStep {α : Type} (p : α → Bool) (_ : Unit) (e : α) : Unit ⊕ Bool := if p e then .inr true else .inl ()
def anyFin (_ : Unit) : Bool := false
theorem any_run {α : Type} (p : α → Bool) : ∀ (l : List α) (u : Unit), runL (anyStep p) anyFin l u = l.any p
  | [], _ => rfl
  | a :: r, u => by
    rw [runL_cons, List.any_cons]
    by_cases h : p a = true
    · simp [anyStep, h, aft]
    · simp [anyStep, h, aft, any_run p r]
def filStep {α : Type} (p : α → Bool) (s : List α) (e : α) : List α ⊕ List α := if p e then .inl (s ++ [e]) else .inl s
def filFin {α : Type} (s : List α) : List α := s
theorem fil_run {α : Type} (p : α → Bool) : ∀ (l : List α) (o : List α), runL (filStep p) filFin l o = o ++ l.filter p
  | [], o => by simp [runL, filFin]
  | a :: r, o => by
    rw [runL_cons]
    by_cases h : p a = true
    · simp [filStep, h, aft, fil_run p r]
    · simp [filStep, h, aft, fil_run p r]
theorem spec_num (n : Int) : Fn Try.prog F_exchequerref15_num [.v (.int .i64 n)] (Is (.v (.bool (decide (0 ≤ n) && decide (n ≤ 1099511627776)))) [.no]) := by
  refine of_exchequerref15_num ?_ (by simp)
  repeat' ((conv => whnf); first
    | (refine And.intro (fun hb => ?_) (fun hb => ?_) <;> first | (exact absurd hb (by first | assumption | decide)) | (with_reducible exact absurd hb Bool.false_ne_true) | (with_reducible exact absurd hb.symm Bool.false_ne_true) | (exfalso; first | (simp only [LENS] at hb <;> omega) | omega) | ((try rw [hb]); (try simp only [NRMS] at hb); (try subst hb)))
    | (refine Exists.intro ?_ ?_; focus (and_intros <;> first | omega | exact rfl | assumption | (intro _ hh; cases hh; done) | exact all_size (by rfl) | exact size_map (fun _ => rfl) | exact size_one rfl | exact take_size (fun _ => rfl) | exact dsize_one rfl | exact dsize_map (fun _ => rfl) | exact dsize_its (fun _ => rfl) | (simp only [LENS]; omega) | (simp; done) | decide))
    | (intro hfact))
  all_goals (try (conv => whnf))
  all_goals (refine Done.mk ⟨SV.bool_congr ?_, by kernel_rfl⟩ (by kernel_rfl))
  all_goals (simp at *; try grind)
theorem spec_has (l : List Str) (x : Str) (hl : l.length ≤ 10000) : Fn Try.prog F_exchequerref15_has [.v (.list (l.map I.str)), .v (.str x)] (Is (.v (.bool (l.any fun e => decide (e = x)))) [.no, .no]) := by
  refine of_exchequerref15_has ?_ (by simp)
  have hm : l.length ≤ maxLen := by simp only [maxLen]; omega
  rw [← any_run _ _ ()]
  generalize hAns : runL _ _ l () = A
  repeat' ((conv => whnf); first
    | (refine And.intro (fun hb => ?_) (fun hb => ?_) <;> first | (exact absurd hb (by first | assumption | decide)) | (with_reducible exact absurd hb Bool.false_ne_true) | (with_reducible exact absurd hb.symm Bool.false_ne_true) | (exfalso; first | (simp only [LENS] at hb <;> omega) | omega) | ((try rw [hb]); (try simp only [NRMS] at hb); (try subst hb)))
    | (refine Exists.intro ?_ ?_; focus (and_intros <;> first | omega | exact rfl | assumption | (intro _ hh; cases hh; done) | exact all_size (by rfl) | exact size_map (fun _ => rfl) | exact size_one rfl | exact take_size (fun _ => rfl) | exact dsize_one rfl | exact dsize_map (fun _ => rfl) | exact dsize_its (fun _ => rfl) | (simp only [LENS]; omega) | (simp; done) | decide))
    | (intro hfact))
  all_goals (try (conv => whnf))
  refine each (l) _ _ _ (fun k s => [(5, .v (.int .i64 k))]) (fun k s => True) () (by kernel_rfl) (by simp) hAns ?_ ?_ <;> clear hAns
  · rintro k ⟨⟩ e he hk hi hA
    dsimp only at hi hA ⊢
    repeat' ((conv => whnf); first
      | (refine And.intro (fun hb => ?_) (fun hb => ?_) <;> first | (exact absurd hb (by first | assumption | decide)) | (with_reducible exact absurd hb Bool.false_ne_true) | (with_reducible exact absurd hb.symm Bool.false_ne_true) | (exfalso; first | (simp only [LENS] at hb <;> omega) | omega) | ((try rw [hb]); (try simp only [NRMS] at hb); (try subst hb)))
      | (refine Exists.intro ?_ ?_; focus (and_intros <;> first | omega | exact rfl | assumption | (intro _ hh; cases hh; done) | exact all_size (by rfl) | exact size_map (fun _ => rfl) | exact size_one rfl | exact take_size (fun _ => rfl) | exact dsize_one rfl | exact dsize_map (fun _ => rfl) | exact dsize_its (fun _ => rfl) | (simp only [LENS]; omega) | (simp; done) | decide))
      | (intro hfact)
      | ((try dsimp only); first | rw [map_get he] | rw [map_getD he] | rw [map_getN he]))
    all_goals (try (conv => whnf))
    all_goals first
      | (simp [-List.append_assoc, anyStep, *] at hA
         first
         | (refine RoundE.aft hA ?_ ?_
            · (try dsimp only); (try rw [wrap_succ hk hm]); (try simp only [List.map_append, List.map_cons, List.map_nil])
              show norm _ _ = upd _ _
              kernel_rfl
            · first | trivial | omega | ((try dsimp only); simp only [LENS]; omega) | ((try dsimp only); (try simp at *); omega))
         | (refine Done.mk ⟨?_, by kernel_rfl⟩ (by kernel_rfl)
            have hA' := hA
            first | (rw [← hA']; first | rfl | kernel_rfl | (simp only [List.map_append, List.map_cons, List.map_nil]; first | rfl | kernel_rfl)) | (rw [← aft_inr hA']; first | rfl | kernel_rfl | (simp only [List.map_append, List.map_cons, List.map_nil]; first | rfl | kernel_rfl)) | (simp at hA' ⊢; simp [*]; done))
        )
  · rintro ⟨⟩ k rfl hi hA
    dsimp only at hi hA ⊢
    repeat' ((conv => whnf); first
      | (refine And.intro (fun hb => ?_) (fun hb => ?_) <;> first | (exact absurd hb (by first | assumption | decide)) | (with_reducible exact absurd hb Bool.false_ne_true) | (with_reducible exact absurd hb.symm Bool.false_ne_true) | (exfalso; first | (simp only [LENS] at hb <;> omega) | omega) | ((try rw [hb]); (try simp only [NRMS] at hb); (try subst hb)))
      | (refine Exists.intro ?_ ?_; focus (and_intros <;> first | omega | exact rfl | assumption | (intro _ hh; cases hh; done) | exact all_size (by rfl) | exact size_map (fun _ => rfl) | exact size_one rfl | exact take_size (fun _ => rfl) | exact dsize_one rfl | exact dsize_map (fun _ => rfl) | exact dsize_its (fun _ => rfl) | (simp only [LENS]; omega) | (simp; done) | decide))
      | (intro hfact))
    all_goals (try (conv => whnf))
    all_goals first
      | (simp [-List.append_assoc, anyFin, *] at hA
         first
         | (refine RoundE.aft hA ?_ ?_
            · (try dsimp only); (try rw [wrap_succ hk hm]); (try simp only [List.map_append, List.map_cons, List.map_nil])
              show norm _ _ = upd _ _
              kernel_rfl
            · first | trivial | omega | ((try dsimp only); simp only [LENS]; omega) | ((try dsimp only); (try simp at *); omega))
         | (refine Done.mk ⟨?_, by kernel_rfl⟩ (by kernel_rfl)
            have hA' := hA
            first | (rw [← hA']; first | rfl | kernel_rfl | (simp only [List.map_append, List.map_cons, List.map_nil]; first | rfl | kernel_rfl)) | (rw [← aft_inr hA']; first | rfl | kernel_rfl | (simp only [List.map_append, List.map_cons, List.map_nil]; first | rfl | kernel_rfl)) | (simp at hA' ⊢; simp [*]; done))
        )
theorem spec_without (l : List Str) (x : Str) (hl : l.length ≤ 10000) : Fn Try.prog F_exchequerref15_without [.v (.list (l.map I.str)), .v (.str x)] (Is (.v (.list ((l.filter fun e => !decide (e = x)).map I.str))) [.no, .no]) := by
  refine of_exchequerref15_without ?_ (by simp)
  have hm : l.length ≤ maxLen := by simp only [maxLen]; omega
  rw [show l.filter (fun e => !decide (e = x)) = runL (filStep _) filFin l [] from (fil_run _ _ []).symm]
  generalize hAns : runL _ _ l _ = A
  repeat' ((conv => whnf); first
    | (refine And.intro (fun hb => ?_) (fun hb => ?_) <;> first | (exact absurd hb (by first | assumption | decide)) | (with_reducible exact absurd hb Bool.false_ne_true) | (with_reducible exact absurd hb.symm Bool.false_ne_true) | (exfalso; first | (simp only [LENS] at hb <;> omega) | omega) | ((try rw [hb]); (try simp only [NRMS] at hb); (try subst hb)))
    | (refine Exists.intro ?_ ?_; focus (and_intros <;> first | omega | exact rfl | assumption | (intro _ hh; cases hh; done) | exact all_size (by rfl) | exact size_map (fun _ => rfl) | exact size_one rfl | exact take_size (fun _ => rfl) | exact dsize_one rfl | exact dsize_map (fun _ => rfl) | exact dsize_its (fun _ => rfl) | (simp only [LENS]; omega) | (simp; done) | decide))
    | (intro hfact))
  all_goals (try (conv => whnf))
  refine each (l) _ _ _ (fun k s => [(5, .vec T_string 1 (s.map I.str)), (6, .v (.int .i64 k))]) (fun k s => s.length ≤ k) [] (by kernel_rfl) (by simp) hAns ?_ ?_ <;> clear hAns
  · rintro k o e he hk hi hA
    dsimp only at hi hA ⊢
    repeat' ((conv => whnf); first
      | (refine And.intro (fun hb => ?_) (fun hb => ?_) <;> first | (exact absurd hb (by first | assumption | decide)) | (with_reducible exact absurd hb Bool.false_ne_true) | (with_reducible exact absurd hb.symm Bool.false_ne_true) | (exfalso; first | (simp only [LENS] at hb <;> omega) | omega) | ((try rw [hb]); (try simp only [NRMS] at hb); (try subst hb)))
      | (refine Exists.intro ?_ ?_; focus (and_intros <;> first | omega | exact rfl | assumption | (intro _ hh; cases hh; done) | exact all_size (by rfl) | exact size_map (fun _ => rfl) | exact size_one rfl | exact take_size (fun _ => rfl) | exact dsize_one rfl | exact dsize_map (fun _ => rfl) | exact dsize_its (fun _ => rfl) | (simp only [LENS]; omega) | (simp; done) | decide))
      | (intro hfact)
      | ((try dsimp only); first | rw [map_get he] | rw [map_getD he] | rw [map_getN he]))
    all_goals (try (conv => whnf))
    all_goals first
      | (simp [-List.append_assoc, filStep, *] at hA
         first
         | (refine RoundE.aft hA ?_ ?_
            · (try dsimp only); (try rw [wrap_succ hk hm]); (try simp only [List.map_append, List.map_cons, List.map_nil])
              show norm _ _ = upd _ _
              kernel_rfl
            · first | trivial | omega | ((try dsimp only); simp only [LENS]; omega) | ((try dsimp only); (try simp at *); omega))
         | (refine Done.mk ⟨?_, by kernel_rfl⟩ (by kernel_rfl)
            have hA' := hA
            first | (rw [← hA']; first | rfl | kernel_rfl | (simp only [List.map_append, List.map_cons, List.map_nil]; first | rfl | kernel_rfl)) | (rw [← aft_inr hA']; first | rfl | kernel_rfl | (simp only [List.map_append, List.map_cons, List.map_nil]; first | rfl | kernel_rfl)) | (simp at hA' ⊢; simp [*]; done))
        )
  · rintro o k rfl hi hA
    dsimp only at hi hA ⊢
    repeat' ((conv => whnf); first
      | (refine And.intro (fun hb => ?_) (fun hb => ?_) <;> first | (exact absurd hb (by first | assumption | decide)) | (with_reducible exact absurd hb Bool.false_ne_true) | (with_reducible exact absurd hb.symm Bool.false_ne_true) | (exfalso; first | (simp only [LENS] at hb <;> omega) | omega) | ((try rw [hb]); (try simp only [NRMS] at hb); (try subst hb)))
      | (refine Exists.intro ?_ ?_; focus (and_intros <;> first | omega | exact rfl | assumption | (intro _ hh; cases hh; done) | exact all_size (by rfl) | exact size_map (fun _ => rfl) | exact size_one rfl | exact take_size (fun _ => rfl) | exact dsize_one rfl | exact dsize_map (fun _ => rfl) | exact dsize_its (fun _ => rfl) | (simp only [LENS]; omega) | (simp; done) | decide))
      | (intro hfact))
    all_goals (try (conv => whnf))
    all_goals first
      | (simp [-List.append_assoc, filFin, *] at hA
         first
         | (refine RoundE.aft hA ?_ ?_
            · (try dsimp only); (try rw [wrap_succ hk hm]); (try simp only [List.map_append, List.map_cons, List.map_nil])
              show norm _ _ = upd _ _
              kernel_rfl
            · first | trivial | omega | ((try dsimp only); simp only [LENS]; omega) | ((try dsimp only); (try simp at *); omega))
         | (refine Done.mk ⟨?_, by kernel_rfl⟩ (by kernel_rfl)
            have hA' := hA
            first | (rw [← hA']; first | rfl | kernel_rfl | (simp only [List.map_append, List.map_cons, List.map_nil]; first | rfl | kernel_rfl)) | (rw [← aft_inr hA']; first | rfl | kernel_rfl | (simp only [List.map_append, List.map_cons, List.map_nil]; first | rfl | kernel_rfl)) | (simp at hA' ⊢; simp [*]; done))
        )
theorem gra_eq (e x : Gra) : (decide (e.sp.f = x.sp.f) && (decide (e.sp.t = x.sp.t) && true) && (decide (e.r = x.r) && (decide (e.w = x.w) && true))) = decide (e = x) := by
  obtain ⟨⟨a, b⟩, c, d⟩ := e
  obtain ⟨⟨a', b'⟩, c', d'⟩ := x
  simp only [Bool.and_true]
  by_cases h1 : a = a' <;> by_cases h2 : b = b' <;> by_cases h3 : c = c' <;> by_cases h4 : d = d' <;> simp [h1, h2, h3, h4]
theorem spec_hasGrant (l : List Gra) (x : Gra) (hl : l.length ≤ 10000) : Fn Try.prog F_exchequerref15_hasGrant [.v (.list (l.map Gra.toI)), .v x.toI] (Is (.v (.bool (l.any fun e => decide (e = x)))) [.no, .no]) := by
  refine of_exchequerref15_hasGrant ?_ (by simp)
  have hm : l.length ≤ maxLen := by simp only [maxLen]; omega
  rw [← any_run _ _ ()]
  generalize hAns : runL _ _ l () = A
  repeat' ((conv => whnf); first
    | (refine And.intro (fun hb => ?_) (fun hb => ?_) <;> first | (exact absurd hb (by first | assumption | decide)) | (with_reducible exact absurd hb Bool.false_ne_true) | (with_reducible exact absurd hb.symm Bool.false_ne_true) | (exfalso; first | (simp only [LENS] at hb <;> omega) | omega) | ((try rw [hb]); (try simp only [NRMS] at hb); (try subst hb)))
    | (refine Exists.intro ?_ ?_; focus (and_intros <;> first | omega | exact rfl | assumption | (intro _ hh; cases hh; done) | exact all_size (by rfl) | exact size_map (fun _ => rfl) | exact size_one rfl | exact take_size (fun _ => rfl) | exact dsize_one rfl | exact dsize_map (fun _ => rfl) | exact dsize_its (fun _ => rfl) | (simp only [LENS]; omega) | (simp; done) | decide))
    | (intro hfact)
    | ((with_reducible apply Drawn.by0); (focus kernel_rfl); intro hfact; (try simp only [List.mem_append, List.mem_cons, List.not_mem_nil, or_false, false_or, or_assoc, forall_eq_or_imp, forall_eq, false_implies, implies_true, forall_const, and_true, true_and] at hfact)))
  all_goals (try (conv => whnf))
  refine each (l) _ _ _ (fun k s => [(5, .v (.int .i64 k))]) (fun k s => True) () (by kernel_rfl) (by simp) hAns ?_ ?_ <;> clear hAns
  · rintro k ⟨⟩ e he hk hi hA
    dsimp only at hi hA ⊢
    repeat' ((conv => whnf); first
      | (refine And.intro (fun hb => ?_) (fun hb => ?_) <;> first | (exact absurd hb (by first | assumption | decide)) | (with_reducible exact absurd hb Bool.false_ne_true) | (with_reducible exact absurd hb.symm Bool.false_ne_true) | (exfalso; first | (simp only [LENS] at hb <;> omega) | omega) | ((try rw [hb]); (try simp only [gra_eq, NRMS] at hb); (try subst hb)))
      | (refine Exists.intro ?_ ?_; focus (and_intros <;> first | omega | exact rfl | assumption | (intro _ hh; cases hh; done) | exact all_size (by rfl) | exact size_map (fun _ => rfl) | exact size_one rfl | exact take_size (fun _ => rfl) | exact dsize_one rfl | exact dsize_map (fun _ => rfl) | exact dsize_its (fun _ => rfl) | (simp only [LENS]; omega) | (simp; done) | decide))
      | (intro hfact)
      | ((with_reducible apply Drawn.by0); (focus kernel_rfl); intro hfact; (try simp only [List.mem_append, List.mem_cons, List.not_mem_nil, or_false, false_or, or_assoc, forall_eq_or_imp, forall_eq, false_implies, implies_true, forall_const, and_true, true_and] at hfact))
      | ((try dsimp only); first | rw [map_get he] | rw [map_getD he] | rw [map_getN he]))
    all_goals (try (conv => whnf))
    all_goals first
      | (simp [-List.append_assoc, anyStep, *] at hA
         first
         | (refine RoundE.aft hA ?_ ?_
            · (try dsimp only); (try rw [wrap_succ hk hm]); (try simp only [List.map_append, List.map_cons, List.map_nil])
              show norm _ _ = upd _ _
              kernel_rfl
            · first | trivial | omega | ((try dsimp only); simp only [LENS]; omega) | ((try dsimp only); (try simp at *); omega))
         | (refine Done.mk ⟨?_, by kernel_rfl⟩ (by kernel_rfl)
            have hA' := hA
            first | (rw [← hA']; first | rfl | kernel_rfl | (simp only [List.map_append, List.map_cons, List.map_nil]; first | rfl | kernel_rfl)) | (rw [← aft_inr hA']; first | rfl | kernel_rfl | (simp only [List.map_append, List.map_cons, List.map_nil]; first | rfl | kernel_rfl)) | (simp at hA' ⊢; simp [*]; done))
        )
  · rintro ⟨⟩ k rfl hi hA
    dsimp only at hi hA ⊢
    repeat' ((conv => whnf); first
      | (refine And.intro (fun hb => ?_) (fun hb => ?_) <;> first | (exact absurd hb (by first | assumption | decide)) | (with_reducible exact absurd hb Bool.false_ne_true) | (with_reducible exact absurd hb.symm Bool.false_ne_true) | (exfalso; first | (simp only [LENS] at hb <;> omega) | omega) | ((try rw [hb]); (try simp only [gra_eq, NRMS] at hb); (try subst hb)))
      | (refine Exists.intro ?_ ?_; focus (and_intros <;> first | omega | exact rfl | assumption | (intro _ hh; cases hh; done) | exact all_size (by rfl) | exact size_map (fun _ => rfl) | exact size_one rfl | exact take_size (fun _ => rfl) | exact dsize_one rfl | exact dsize_map (fun _ => rfl) | exact dsize_its (fun _ => rfl) | (simp only [LENS]; omega) | (simp; done) | decide))
      | (intro hfact)
      | ((with_reducible apply Drawn.by0); (focus kernel_rfl); intro hfact; (try simp only [List.mem_append, List.mem_cons, List.not_mem_nil, or_false, false_or, or_assoc, forall_eq_or_imp, forall_eq, false_implies, implies_true, forall_const, and_true, true_and] at hfact)))
    all_goals (try (conv => whnf))
    all_goals first
      | (simp [-List.append_assoc, anyFin, *] at hA
         first
         | (refine RoundE.aft hA ?_ ?_
            · (try dsimp only); (try rw [wrap_succ hk hm]); (try simp only [List.map_append, List.map_cons, List.map_nil])
              show norm _ _ = upd _ _
              kernel_rfl
            · first | trivial | omega | ((try dsimp only); simp only [LENS]; omega) | ((try dsimp only); (try simp at *); omega))
         | (refine Done.mk ⟨?_, by kernel_rfl⟩ (by kernel_rfl)
            have hA' := hA
            first | (rw [← hA']; first | rfl | kernel_rfl | (simp only [List.map_append, List.map_cons, List.map_nil]; first | rfl | kernel_rfl)) | (rw [← aft_inr hA']; first | rfl | kernel_rfl | (simp only [List.map_append, List.map_cons, List.map_nil]; first | rfl | kernel_rfl)) | (simp at hA' ⊢; simp [*]; done))
        )
theorem spec_texts (l : List Str) (x : Str) (hl : l.length ≤ 10000) : Fn Try.prog F_exchequerref15_texts [.v (.list (l.map I.str)), .v (I.str x)] (Is (.v (.list ((insBy (fun e : Str => decide (x < e)) x l).map I.str))) [.no, .no]) := by
  refine of_exchequerref15_texts ?_ (by simp)
  have hm : l.length ≤ maxLen := by simp only [maxLen]; omega
  rw [show insBy (fun e : Str => decide (x < e)) x l = runL (insStep _ x) (insFin x) l ([], false) from (ins_run _ x l []).2.symm]
  generalize hAns : runL _ _ l _ = A
  repeat' ((conv => whnf); first
    | (refine And.intro (fun hb => ?_) (fun hb => ?_) <;> first | (exact absurd hb (by first | assumption | decide)) | (with_reducible exact absurd hb Bool.false_ne_true) | (with_reducible exact absurd hb.symm Bool.false_ne_true) | (exfalso; first | (simp only [LENS] at hb <;> omega) | omega) | ((try rw [hb]); (try simp only [NRMS] at hb); (try subst hb)))
    | (refine Exists.intro ?_ ?_; focus (and_intros <;> first | omega | exact rfl | assumption | (intro _ hh; cases hh; done) | exact all_size (by rfl) | exact size_map (fun _ => rfl) | exact size_one rfl | exact take_size (fun _ => rfl) | exact dsize_one rfl | exact dsize_map (fun _ => rfl) | exact dsize_its (fun _ => rfl) | (simp only [LENS]; omega) | (simp; done) | decide))
    | (intro hfact))
  all_goals (try (conv => whnf))
  refine each (l) _ _ _ (fun k s => [(5, .vec T_string 1 (s.1.map I.str)), (6, .v (.bool s.2)), (7, .v (.int .i64 k))]) (fun k s => s.1.length ≤ 2 * k) ([], false) (by kernel_rfl) (by simp) hAns ?_ ?_ <;> clear hAns
  · rintro k ⟨o, d⟩ e he hk hi hA
    dsimp only at hi hA ⊢
    repeat' ((conv => whnf); first
      | (refine And.intro (fun hb => ?_) (fun hb => ?_) <;> first | (exact absurd hb (by first | assumption | decide)) | (with_reducible exact absurd hb Bool.false_ne_true) | (with_reducible exact absurd hb.symm Bool.false_ne_true) | (exfalso; first | (simp only [LENS] at hb <;> omega) | omega) | ((try rw [hb]); (try simp only [NRMS] at hb); (try subst hb)))
      | (refine Exists.intro ?_ ?_; focus (and_intros <;> first | omega | exact rfl | assumption | (intro _ hh; cases hh; done) | exact all_size (by rfl) | exact size_map (fun _ => rfl) | exact size_one rfl | exact take_size (fun _ => rfl) | exact dsize_one rfl | exact dsize_map (fun _ => rfl) | exact dsize_its (fun _ => rfl) | (simp only [LENS]; omega) | (simp; done) | decide))
      | (intro hfact)
      | ((try dsimp only); first | rw [map_get he] | rw [map_getD he] | rw [map_getN he]))
    all_goals (try (conv => whnf))
    all_goals first
      | (simp [-List.append_assoc, insStep, *] at hA
         first
         | (refine RoundE.aft hA ?_ ?_
            · (try dsimp only); (try rw [wrap_succ hk hm]); (try simp only [List.map_append, List.map_cons, List.map_nil])
              show norm _ _ = upd _ _
              kernel_rfl
            · first | trivial | omega | ((try dsimp only); simp only [LENS]; omega) | ((try dsimp only); (try simp at *); omega))
         | (refine Done.mk ⟨?_, by kernel_rfl⟩ (by kernel_rfl)
            have hA' := hA
            first | (rw [← hA']; first | rfl | kernel_rfl | (simp only [List.map_append, List.map_cons, List.map_nil]; first | rfl | kernel_rfl)) | (rw [← aft_inr hA']; first | rfl | kernel_rfl | (simp only [List.map_append, List.map_cons, List.map_nil]; first | rfl | kernel_rfl)) | (simp at hA' ⊢; simp [*]; done))
        )
  · rintro ⟨o, d⟩ k rfl hi hA
    dsimp only at hi hA ⊢
    repeat' ((conv => whnf); first
      | (refine And.intro (fun hb => ?_) (fun hb => ?_) <;> first | (exact absurd hb (by first | assumption | decide)) | (with_reducible exact absurd hb Bool.false_ne_true) | (with_reducible exact absurd hb.symm Bool.false_ne_true) | (exfalso; first | (simp only [LENS] at hb <;> omega) | omega) | ((try rw [hb]); (try simp only [NRMS] at hb); (try subst hb)))
      | (refine Exists.intro ?_ ?_; focus (and_intros <;> first | omega | exact rfl | assumption | (intro _ hh; cases hh; done) | exact all_size (by rfl) | exact size_map (fun _ => rfl) | exact size_one rfl | exact take_size (fun _ => rfl) | exact dsize_one rfl | exact dsize_map (fun _ => rfl) | exact dsize_its (fun _ => rfl) | (simp only [LENS]; omega) | (simp; done) | decide))
      | (intro hfact))
    all_goals (try (conv => whnf))
    all_goals first
      | (simp [-List.append_assoc, insFin, *] at hA
         first
         | (refine RoundE.aft hA ?_ ?_
            · (try dsimp only); (try rw [wrap_succ hk hm]); (try simp only [List.map_append, List.map_cons, List.map_nil])
              show norm _ _ = upd _ _
              kernel_rfl
            · first | trivial | omega | ((try dsimp only); simp only [LENS]; omega) | ((try dsimp only); (try simp at *); omega))
         | (refine Done.mk ⟨?_, by kernel_rfl⟩ (by kernel_rfl)
            have hA' := hA
            first | (rw [← hA']; first | rfl | kernel_rfl | (simp only [List.map_append, List.map_cons, List.map_nil]; first | rfl | kernel_rfl)) | (rw [← aft_inr hA']; first | rfl | kernel_rfl | (simp only [List.map_append, List.map_cons, List.map_nil]; first | rfl | kernel_rfl)) | (simp at hA' ⊢; simp [*]; done))
        )
theorem spec_addTenant (l : List Ten) (x : Ten) (hl : l.length ≤ 10000) : Fn Try.prog F_exchequerref15_addTenant [.v (.list (l.map Ten.toI)), .v (Ten.toI x)] (Is (.v (.list ((insBy (fun e : Ten => decide (x.name < e.name)) x l).map Ten.toI))) [.no, .no]) := by
  refine of_exchequerref15_addTenant ?_ (by simp)
  have hm : l.length ≤ maxLen := by simp only [maxLen]; omega
  rw [show insBy (fun e : Ten => decide (x.name < e.name)) x l = runL (insStep _ x) (insFin x) l ([], false) from (ins_run _ x l []).2.symm]
  generalize hAns : runL _ _ l _ = A
  repeat' ((conv => whnf); first
    | (refine And.intro (fun hb => ?_) (fun hb => ?_) <;> first | (exact absurd hb (by first | assumption | decide)) | (with_reducible exact absurd hb Bool.false_ne_true) | (with_reducible exact absurd hb.symm Bool.false_ne_true) | (exfalso; first | (simp only [LENS] at hb <;> omega) | omega) | ((try rw [hb]); (try simp only [NRMS] at hb); (try subst hb)))
    | (refine Exists.intro ?_ ?_; focus (and_intros <;> first | omega | exact rfl | assumption | (intro _ hh; cases hh; done) | exact all_size (by rfl) | exact size_map (fun _ => rfl) | exact size_one rfl | exact take_size (fun _ => rfl) | exact dsize_one rfl | exact dsize_map (fun _ => rfl) | exact dsize_its (fun _ => rfl) | (simp only [LENS]; omega) | (simp; done) | decide))
    | (intro hfact)
    | ((with_reducible apply Drawn.by0); (focus kernel_rfl); intro hfact; (try simp only [List.mem_append, List.mem_cons, List.not_mem_nil, or_false, false_or, or_assoc, forall_eq_or_imp, forall_eq, false_implies, implies_true, forall_const, and_true, true_and] at hfact)))
  all_goals (try (conv => whnf))
  refine each (l) _ _ _ (fun k s => [(5, .vec T_api_Tenant 3 (s.1.map Ten.toI)), (6, .v (.bool s.2)), (7, .v (.int .i64 k))]) (fun k s => s.1.length ≤ 2 * k) ([], false) (by kernel_rfl) (by simp) hAns ?_ ?_ <;> clear hAns
  · rintro k ⟨o, d⟩ e he hk hi hA
    dsimp only at hi hA ⊢
    repeat' ((conv => whnf); first
      | (refine And.intro (fun hb => ?_) (fun hb => ?_) <;> first | (exact absurd hb (by first | assumption | decide)) | (with_reducible exact absurd hb Bool.false_ne_true) | (with_reducible exact absurd hb.symm Bool.false_ne_true) | (exfalso; first | (simp only [LENS] at hb <;> omega) | omega) | ((try rw [hb]); (try simp only [NRMS] at hb); (try subst hb)))
      | (refine Exists.intro ?_ ?_; focus (and_intros <;> first | omega | exact rfl | assumption | (intro _ hh; cases hh; done) | exact all_size (by rfl) | exact size_map (fun _ => rfl) | exact size_one rfl | exact take_size (fun _ => rfl) | exact dsize_one rfl | exact dsize_map (fun _ => rfl) | exact dsize_its (fun _ => rfl) | (simp only [LENS]; omega) | (simp; done) | decide))
      | (intro hfact)
      | ((with_reducible apply Drawn.by0); (focus kernel_rfl); intro hfact; (try simp only [List.mem_append, List.mem_cons, List.not_mem_nil, or_false, false_or, or_assoc, forall_eq_or_imp, forall_eq, false_implies, implies_true, forall_const, and_true, true_and] at hfact))
      | ((try dsimp only); first | rw [map_get he] | rw [map_getD he] | rw [map_getN he]))
    all_goals (try (conv => whnf))
    all_goals first
      | (simp [-List.append_assoc, insStep, *] at hA
         first
         | (refine RoundE.aft hA ?_ ?_
            · (try dsimp only); (try rw [wrap_succ hk hm]); (try simp only [List.map_append, List.map_cons, List.map_nil])
              show norm _ _ = upd _ _
              kernel_rfl
            · first | trivial | omega | ((try dsimp only); simp only [LENS]; omega) | ((try dsimp only); (try simp at *); omega))
         | (refine Done.mk ⟨?_, by kernel_rfl⟩ (by kernel_rfl)
            have hA' := hA
            first | (rw [← hA']; first | rfl | kernel_rfl | (simp only [List.map_append, List.map_cons, List.map_nil]; first | rfl | kernel_rfl)) | (rw [← aft_inr hA']; first | rfl | kernel_rfl | (simp only [List.map_append, List.map_cons, List.map_nil]; first | rfl | kernel_rfl)) | (simp at hA' ⊢; simp [*]; done))
        )
  · rintro ⟨o, d⟩ k rfl hi hA
    dsimp only at hi hA ⊢
    repeat' ((conv => whnf); first
      | (refine And.intro (fun hb => ?_) (fun hb => ?_) <;> first | (exact absurd hb (by first | assumption | decide)) | (with_reducible exact absurd hb Bool.false_ne_true) | (with_reducible exact absurd hb.symm Bool.false_ne_true) | (exfalso; first | (simp only [LENS] at hb <;> omega) | omega) | ((try rw [hb]); (try simp only [NRMS] at hb); (try subst hb)))
      | (refine Exists.intro ?_ ?_; focus (and_intros <;> first | omega | exact rfl | assumption | (intro _ hh; cases hh; done) | exact all_size (by rfl) | exact size_map (fun _ => rfl) | exact size_one rfl | exact take_size (fun _ => rfl) | exact dsize_one rfl | exact dsize_map (fun _ => rfl) | exact dsize_its (fun _ => rfl) | (simp only [LENS]; omega) | (simp; done) | decide))
      | (intro hfact)
      | ((with_reducible apply Drawn.by0); (focus kernel_rfl); intro hfact; (try simp only [List.mem_append, List.mem_cons, List.not_mem_nil, or_false, false_or, or_assoc, forall_eq_or_imp, forall_eq, false_implies, implies_true, forall_const, and_true, true_and] at hfact)))
    all_goals (try (conv => whnf))
    all_goals first
      | (simp [-List.append_assoc, insFin, *] at hA
         first
         | (refine RoundE.aft hA ?_ ?_
            · (try dsimp only); (try rw [wrap_succ hk hm]); (try simp only [List.map_append, List.map_cons, List.map_nil])
              show norm _ _ = upd _ _
              kernel_rfl
            · first | trivial | omega | ((try dsimp only); simp only [LENS]; omega) | ((try dsimp only); (try simp at *); omega))
         | (refine Done.mk ⟨?_, by kernel_rfl⟩ (by kernel_rfl)
            have hA' := hA
            first | (rw [← hA']; first | rfl | kernel_rfl | (simp only [List.map_append, List.map_cons, List.map_nil]; first | rfl | kernel_rfl)) | (rw [← aft_inr hA']; first | rfl | kernel_rfl | (simp only [List.map_append, List.map_cons, List.map_nil]; first | rfl | kernel_rfl)) | (simp at hA' ⊢; simp [*]; done))
        )
theorem spec_addUser (l : List Usr) (x : Usr) (hl : l.length ≤ 10000) : Fn Try.prog F_exchequerref15_addUser [.v (.list (l.map Usr.toI)), .v (Usr.toI x)] (Is (.v (.list ((insBy (fun e : Usr => decide (x.name < e.name)) x l).map Usr.toI))) [.no, .no]) := by
  refine of_exchequerref15_addUser ?_ (by simp)
  have hm : l.length ≤ maxLen := by simp only [maxLen]; omega
  rw [show insBy (fun e : Usr => decide (x.name < e.name)) x l = runL (insStep _ x) (insFin x) l ([], false) from (ins_run _ x l []).2.symm]
  generalize hAns : runL _ _ l _ = A
  repeat' ((conv => whnf); first
    | (refine And.intro (fun hb => ?_) (fun hb => ?_) <;> first | (exact absurd hb (by first | assumption | decide)) | (with_reducible exact absurd hb Bool.false_ne_true) | (with_reducible exact absurd hb.symm Bool.false_ne_true) | (exfalso; first | (simp only [LENS] at hb <;> omega) | omega) | ((try rw [hb]); (try simp only [NRMS] at hb); (try subst hb)))
    | (refine Exists.intro ?_ ?_; focus (and_intros <;> first | omega | exact rfl | assumption | (intro _ hh; cases hh; done) | exact all_size (by rfl) | exact size_map (fun _ => rfl) | exact size_one rfl | exact take_size (fun _ => rfl) | exact dsize_one rfl | exact dsize_map (fun _ => rfl) | exact dsize_its (fun _ => rfl) | (simp only [LENS]; omega) | (simp; done) | decide))
    | (intro hfact)
    | ((with_reducible apply Drawn.by0); (focus kernel_rfl); intro hfact; (try simp only [List.mem_append, List.mem_cons, List.not_mem_nil, or_false, false_or, or_assoc, forall_eq_or_imp, forall_eq, false_implies, implies_true, forall_const, and_true, true_and] at hfact)))
  all_goals (try (conv => whnf))
  refine each (l) _ _ _ (fun k s => [(5, .vec T_api_User 5 (s.1.map Usr.toI)), (6, .v (.bool s.2)), (7, .v (.int .i64 k))]) (fun k s => s.1.length ≤ 2 * k) ([], false) (by kernel_rfl) (by simp) hAns ?_ ?_ <;> clear hAns
  · rintro k ⟨o, d⟩ e he hk hi hA
    dsimp only at hi hA ⊢
    repeat' ((conv => whnf); first
      | (refine And.intro (fun hb => ?_) (fun hb => ?_) <;> first | (exact absurd hb (by first | assumption | decide)) | (with_reducible exact absurd hb Bool.false_ne_true) | (with_reducible exact absurd hb.symm Bool.false_ne_true) | (exfalso; first | (simp only [LENS] at hb <;> omega) | omega) | ((try rw [hb]); (try simp only [NRMS] at hb); (try subst hb)))
      | (refine Exists.intro ?_ ?_; focus (and_intros <;> first | omega | exact rfl | assumption | (intro _ hh; cases hh; done) | exact all_size (by rfl) | exact size_map (fun _ => rfl) | exact size_one rfl | exact take_size (fun _ => rfl) | exact dsize_one rfl | exact dsize_map (fun _ => rfl) | exact dsize_its (fun _ => rfl) | (simp only [LENS]; omega) | (simp; done) | decide))
      | (intro hfact)
      | ((with_reducible apply Drawn.by0); (focus kernel_rfl); intro hfact; (try simp only [List.mem_append, List.mem_cons, List.not_mem_nil, or_false, false_or, or_assoc, forall_eq_or_imp, forall_eq, false_implies, implies_true, forall_const, and_true, true_and] at hfact))
      | ((try dsimp only); first | rw [map_get he] | rw [map_getD he] | rw [map_getN he]))
    all_goals (try (conv => whnf))
    all_goals first
      | (simp [-List.append_assoc, insStep, *] at hA
         first
         | (refine RoundE.aft hA ?_ ?_
            · (try dsimp only); (try rw [wrap_succ hk hm]); (try simp only [List.map_append, List.map_cons, List.map_nil])
              show norm _ _ = upd _ _
              kernel_rfl
            · first | trivial | omega | ((try dsimp only); simp only [LENS]; omega) | ((try dsimp only); (try simp at *); omega))
         | (refine Done.mk ⟨?_, by kernel_rfl⟩ (by kernel_rfl)
            have hA' := hA
            first | (rw [← hA']; first | rfl | kernel_rfl | (simp only [List.map_append, List.map_cons, List.map_nil]; first | rfl | kernel_rfl)) | (rw [← aft_inr hA']; first | rfl | kernel_rfl | (simp only [List.map_append, List.map_cons, List.map_nil]; first | rfl | kernel_rfl)) | (simp at hA' ⊢; simp [*]; done))
        )
  · rintro ⟨o, d⟩ k rfl hi hA
    dsimp only at hi hA ⊢
    repeat' ((conv => whnf); first
      | (refine And.intro (fun hb => ?_) (fun hb => ?_) <;> first | (exact absurd hb (by first | assumption | decide)) | (with_reducible exact absurd hb Bool.false_ne_true) | (with_reducible exact absurd hb.symm Bool.false_ne_true) | (exfalso; first | (simp only [LENS] at hb <;> omega) | omega) | ((try rw [hb]); (try simp only [NRMS] at hb); (try subst hb)))
      | (refine Exists.intro ?_ ?_; focus (and_intros <;> first | omega | exact rfl | assumption | (intro _ hh; cases hh; done) | exact all_size (by rfl) | exact size_map (fun _ => rfl) | exact size_one rfl | exact take_size (fun _ => rfl) | exact dsize_one rfl | exact dsize_map (fun _ => rfl) | exact dsize_its (fun _ => rfl) | (simp only [LENS]; omega) | (simp; done) | decide))
      | (intro hfact)
      | ((with_reducible apply Drawn.by0); (focus kernel_rfl); intro hfact; (try simp only [List.mem_append, List.mem_cons, List.not_mem_nil, or_false, false_or, or_assoc, forall_eq_or_imp, forall_eq, false_implies, implies_true, forall_const, and_true, true_and] at hfact)))
    all_goals (try (conv => whnf))
    all_goals first
      | (simp [-List.append_assoc, insFin, *] at hA
         first
         | (refine RoundE.aft hA ?_ ?_
            · (try dsimp only); (try rw [wrap_succ hk hm]); (try simp only [List.map_append, List.map_cons, List.map_nil])
              show norm _ _ = upd _ _
              kernel_rfl
            · first | trivial | omega | ((try dsimp only); simp only [LENS]; omega) | ((try dsimp only); (try simp at *); omega))
         | (refine Done.mk ⟨?_, by kernel_rfl⟩ (by kernel_rfl)
            have hA' := hA
            first | (rw [← hA']; first | rfl | kernel_rfl | (simp only [List.map_append, List.map_cons, List.map_nil]; first | rfl | kernel_rfl)) | (rw [← aft_inr hA']; first | rfl | kernel_rfl | (simp only [List.map_append, List.map_cons, List.map_nil]; first | rfl | kernel_rfl)) | (simp at hA' ⊢; simp [*]; done))
        )
theorem spec_addRole (l : List Rol) (x : Rol) (hl : l.length ≤ 10000) : Fn Try.prog F_exchequerref15_addRole [.v (.list (l.map Rol.toI)), .v (Rol.toI x)] (Is (.v (.list ((insBy (fun e : Rol => decide (x.name < e.name)) x l).map Rol.toI))) [.no, .no]) := by
  refine of_exchequerref15_addRole ?_ (by simp)
  have hm : l.length ≤ maxLen := by simp only [maxLen]; omega
  rw [show insBy (fun e : Rol => decide (x.name < e.name)) x l = runL (insStep _ x) (insFin x) l ([], false) from (ins_run _ x l []).2.symm]
  generalize hAns : runL _ _ l _ = A
  repeat' ((conv => whnf); first
    | (refine And.intro (fun hb => ?_) (fun hb => ?_) <;> first | (exact absurd hb (by first | assumption | decide)) | (with_reducible exact absurd hb Bool.false_ne_true) | (with_reducible exact absurd hb.symm Bool.false_ne_true) | (exfalso; first | (simp only [LENS] at hb <;> omega) | omega) | ((try rw [hb]); (try simp only [NRMS] at hb); (try subst hb)))
    | (refine Exists.intro ?_ ?_; focus (and_intros <;> first | omega | exact rfl | assumption | (intro _ hh; cases hh; done) | exact all_size (by rfl) | exact size_map (fun _ => rfl) | exact size_one rfl | exact take_size (fun _ => rfl) | exact dsize_one rfl | exact dsize_map (fun _ => rfl) | exact dsize_its (fun _ => rfl) | (simp only [LENS]; omega) | (simp; done) | decide))
    | (intro hfact)
    | ((with_reducible apply Drawn.by0); (focus kernel_rfl); intro hfact; (try simp only [List.mem_append, List.mem_cons, List.not_mem_nil, or_false, false_or, or_assoc, forall_eq_or_imp, forall_eq, false_implies, implies_true, forall_const, and_true, true_and] at hfact)))
  all_goals (try (conv => whnf))
  refine each (l) _ _ _ (fun k s => [(5, .vec T_api_Role 3 (s.1.map Rol.toI)), (6, .v (.bool s.2)), (7, .v (.int .i64 k))]) (fun k s => s.1.length ≤ 2 * k) ([], false) (by kernel_rfl) (by simp) hAns ?_ ?_ <;> clear hAns
  · rintro k ⟨o, d⟩ e he hk hi hA
    dsimp only at hi hA ⊢
    repeat' ((conv => whnf); first
      | (refine And.intro (fun hb => ?_) (fun hb => ?_) <;> first | (exact absurd hb (by first | assumption | decide)) | (with_reducible exact absurd hb Bool.false_ne_true) | (with_reducible exact absurd hb.symm Bool.false_ne_true) | (exfalso; first | (simp only [LENS] at hb <;> omega) | omega) | ((try rw [hb]); (try simp only [NRMS] at hb); (try subst hb)))
      | (refine Exists.intro ?_ ?_; focus (and_intros <;> first | omega | exact rfl | assumption | (intro _ hh; cases hh; done) | exact all_size (by rfl) | exact size_map (fun _ => rfl) | exact size_one rfl | exact take_size (fun _ => rfl) | exact dsize_one rfl | exact dsize_map (fun _ => rfl) | exact dsize_its (fun _ => rfl) | (simp only [LENS]; omega) | (simp; done) | decide))
      | (intro hfact)
      | ((with_reducible apply Drawn.by0); (focus kernel_rfl); intro hfact; (try simp only [List.mem_append, List.mem_cons, List.not_mem_nil, or_false, false_or, or_assoc, forall_eq_or_imp, forall_eq, false_implies, implies_true, forall_const, and_true, true_and] at hfact))
      | ((try dsimp only); first | rw [map_get he] | rw [map_getD he] | rw [map_getN he]))
    all_goals (try (conv => whnf))
    all_goals first
      | (simp [-List.append_assoc, insStep, *] at hA
         first
         | (refine RoundE.aft hA ?_ ?_
            · (try dsimp only); (try rw [wrap_succ hk hm]); (try simp only [List.map_append, List.map_cons, List.map_nil])
              show norm _ _ = upd _ _
              kernel_rfl
            · first | trivial | omega | ((try dsimp only); simp only [LENS]; omega) | ((try dsimp only); (try simp at *); omega))
         | (refine Done.mk ⟨?_, by kernel_rfl⟩ (by kernel_rfl)
            have hA' := hA
            first | (rw [← hA']; first | rfl | kernel_rfl | (simp only [List.map_append, List.map_cons, List.map_nil]; first | rfl | kernel_rfl)) | (rw [← aft_inr hA']; first | rfl | kernel_rfl | (simp only [List.map_append, List.map_cons, List.map_nil]; first | rfl | kernel_rfl)) | (simp at hA' ⊢; simp [*]; done))
        )
  · rintro ⟨o, d⟩ k rfl hi hA
    dsimp only at hi hA ⊢
    repeat' ((conv => whnf); first
      | (refine And.intro (fun hb => ?_) (fun hb => ?_) <;> first | (exact absurd hb (by first | assumption | decide)) | (with_reducible exact absurd hb Bool.false_ne_true) | (with_reducible exact absurd hb.symm Bool.false_ne_true) | (exfalso; first | (simp only [LENS] at hb <;> omega) | omega) | ((try rw [hb]); (try simp only [NRMS] at hb); (try subst hb)))
      | (refine Exists.intro ?_ ?_; focus (and_intros <;> first | omega | exact rfl | assumption | (intro _ hh; cases hh; done) | exact all_size (by rfl) | exact size_map (fun _ => rfl) | exact size_one rfl | exact take_size (fun _ => rfl) | exact dsize_one rfl | exact dsize_map (fun _ => rfl) | exact dsize_its (fun _ => rfl) | (simp only [LENS]; omega) | (simp; done) | decide))
      | (intro hfact)
      | ((with_reducible apply Drawn.by0); (focus kernel_rfl); intro hfact; (try simp only [List.mem_append, List.mem_cons, List.not_mem_nil, or_false, false_or, or_assoc, forall_eq_or_imp, forall_eq, false_implies, implies_true, forall_const, and_true, true_and] at hfact)))
    all_goals (try (conv => whnf))
    all_goals first
      | (simp [-List.append_assoc, insFin, *] at hA
         first
         | (refine RoundE.aft hA ?_ ?_
            · (try dsimp only); (try rw [wrap_succ hk hm]); (try simp only [List.map_append, List.map_cons, List.map_nil])
              show norm _ _ = upd _ _
              kernel_rfl
            · first | trivial | omega | ((try dsimp only); simp only [LENS]; omega) | ((try dsimp only); (try simp at *); omega))
         | (refine Done.mk ⟨?_, by kernel_rfl⟩ (by kernel_rfl)
            have hA' := hA
            first | (rw [← hA']; first | rfl | kernel_rfl | (simp only [List.map_append, List.map_cons, List.map_nil]; first | rfl | kernel_rfl)) | (rw [← aft_inr hA']; first | rfl | kernel_rfl | (simp only [List.map_append, List.map_cons, List.map_nil]; first | rfl | kernel_rfl)) | (simp at hA' ⊢; simp [*]; done))
        )
end Go.Ab

