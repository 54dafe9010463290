/- One text of the proof whose last text says what is proved. -/
import Derived.Test.YtoombangidlpjaaA19
set_option linter.unusedVariables false
set_option linter.unusedSimpArgs false
set_option maxRecDepth 100000
set_option maxHeartbeats 40000000
namespace Go.Ab
open Go.Proofs

def bigC (c : Cmd) : Bool := decide (1000 < (c.name.length : Int)) || decide (1000 < (c.other.length : Int)) || decide (1000 < (c.word.length : Int)) || decide (1000 < (c.salt.length : Int)) || decide (1000 < (c.grant.sp.f.length : Int)) || decide (1000 < (c.grant.sp.t.length : Int))
def behStep (r : Roll) (c : Cmd) : Roll ⊕ (Roll × Bool) := if bigC c then .inr (r, false) else .inl (next r c)
def behFin (r : Roll) : Roll × Bool := (r, true)
def behM (l : List Cmd) : Roll × Bool := if 80 < (l.length : Int) then (basisM, false) else runL behStep behFin l basisM
theorem beh_fit : ∀ (l : List Cmd) (r : Roll), r.Fit → (runL behStep behFin l r).1.Fit
  | [], r, h => h
  | c :: l, r, h => by
    rw [runL_cons]
    by_cases hb : bigC c = true
    · simp only [behStep, hb, if_true, aft]; exact h
    · simp only [behStep, hb, if_false, aft]; exact beh_fit l _ (next_fit h c)
theorem behM_fit (l : List Cmd) : (behM l).1.Fit := by
  unfold behM
  split
  · exact basis_fit
  · exact beh_fit l _ basis_fit
theorem spec_behind (l : List Cmd) (hl : l.length ≤ 9223372036854775807) : Fn Try.prog F_exchequerlaw16_behind [.v (.list (l.map Cmd.toI))] (Is (.tup [.i (behM l).1.toI, .i (.bool (behM l).2)]) [.no]) := by
  refine of_exchequerlaw16_behind ?_ (by simp)
  have n0 := spec_basis
  have hfit := basis_fit
  by_cases h80 : 80 < (l.length : Int)
  · have hM : behM l = (basisM, false) := by unfold behM; rw [if_pos h80]
    rw [hM]
    repeat' ((conv => whnf); first
      | (refine And.intro (fun hb => ?_) (fun hb => ?_) <;> first | (exact absurd hb (by first | assumption | decide)) | (with_reducible exact absurd hb Bool.false_ne_true) | (with_reducible exact absurd hb.symm Bool.false_ne_true) | (exfalso; first | (simp only [LENS] at hb <;> omega) | omega) | ((try rw [hb]); (try simp only [NRMS] at hb); (try subst hb)))
      | (refine Exists.intro ?_ ?_; focus (and_intros <;> first | omega | exact rfl | assumption | (intro _ hh; cases hh; done) | exact all_size (by rfl) | exact size_map (fun _ => rfl) | exact size_one rfl | exact take_size (fun _ => rfl) | exact dsize_one rfl | exact dsize_map (fun _ => rfl) | exact dsize_its (fun _ => rfl) | (simp only [LENS]; omega) | (simp; done) | decide))
      | (intro hfact)
      | (refine CallWp.mk ⟨_, n0, ?_⟩; rintro _ _ ⟨rfl, rfl⟩))
    all_goals (try (conv => whnf))
    exact Done.mk ⟨rfl, by kernel_rfl⟩ (by kernel_rfl)
  have hAns : runL behStep behFin l basisM = behM l := by unfold behM; rw [if_neg h80]
  have hm : l.length ≤ maxLen := by simp only [maxLen]; omega
  obtain ⟨R0, hR0⟩ : ∃ R, R = basisM := ⟨_, rfl⟩
  rw [← hR0] at n0 hAns hfit
  generalize behM l = A at hAns ⊢
  clear hR0
  repeat' ((conv => whnf); first
    | (refine And.intro (fun hb => ?_) (fun hb => ?_) <;> first | (exact absurd hb (by first | assumption | decide)) | (with_reducible exact absurd hb Bool.false_ne_true) | (with_reducible exact absurd hb.symm Bool.false_ne_true) | (exfalso; first | (simp only [LENS] at hb <;> omega) | omega) | ((try rw [hb]); (try simp only [NRMS] at hb); (try subst hb)))
    | (refine Exists.intro ?_ ?_; focus (and_intros <;> first | omega | exact rfl | assumption | (intro _ hh; cases hh; done) | exact all_size (by rfl) | exact size_map (fun _ => rfl) | exact size_one rfl | exact take_size (fun _ => rfl) | exact dsize_one rfl | exact dsize_map (fun _ => rfl) | exact dsize_its (fun _ => rfl) | (simp only [LENS]; omega) | (simp; done) | decide))
    | (intro hfact)
    | (refine CallWp.mk ⟨_, n0, ?_⟩; rintro _ _ ⟨rfl, rfl⟩))
  all_goals (try (conv => whnf))
  refine each l _ _ _ (fun k s => [(4, .box (.one (.i (Roll.toI s)))), (14, .v (.int .i64 k))]) (fun k s => s.Fit) R0 (by kernel_rfl) hfit hAns ?_ ?_ <;> clear hAns
  · rintro k s e he hk hi hA
    have hn := next_fit hi e
    obtain ⟨D, hD⟩ : ∃ D, D = doM s e := ⟨_, rfl⟩
    have hD1 : next s e = D.1 := by rw [hD]; rfl
    rw [hD1] at hn
    have hd : e.word.length ≤ 1000000 ∧ e.salt.length ≤ 1000000 → Fn Try.prog F_exchequerref15_Do [.v s.toI, .v e.toI] (Is (.tup [.i D.1.toI, .i (.int .i64 D.2)]) [.no, .no]) := fun h => by
      rw [hD]; exact spec_do s hi.small e (by have := hi.hV; omega) h
    clear hD
    dsimp only at hi ⊢
    repeat' ((conv => whnf); first
      | (refine And.intro (fun hb => ?_) (fun hb => ?_) <;> first | (exact absurd hb (by first | assumption | decide)) | (with_reducible exact absurd hb Bool.false_ne_true) | (with_reducible exact absurd hb.symm Bool.false_ne_true) | (exfalso; first | (simp only [LENS] at hb <;> omega) | omega) | ((try rw [hb]); (try simp only [NRMS] at hb); (try subst hb)))
      | (refine Exists.intro ?_ ?_; focus (and_intros <;> first | omega | exact rfl | assumption | (intro _ hh; cases hh; done) | exact all_size (by rfl) | exact size_map (fun _ => rfl) | exact size_one rfl | exact take_size (fun _ => rfl) | exact dsize_one rfl | exact dsize_map (fun _ => rfl) | exact dsize_its (fun _ => rfl) | (simp only [LENS]; omega) | (simp; done) | decide))
      | (intro hfact)
      | ((try dsimp only); first | rw [map_get he] | rw [map_getD he] | rw [map_getN he])
      | (refine CallWp.mk ⟨_, (hd ⟨by omega, by omega⟩), ?_⟩; rintro _ _ ⟨rfl, rfl⟩))
    all_goals (try (conv => whnf))
    all_goals first
      | (simp only [behStep, bigC, hD1, *, decide_true, decide_false, Bool.true_or, Bool.or_true, Bool.or_false, Bool.false_or, if_true, if_false, Bool.false_eq_true] at hA
         first
         | (refine RoundE.aft hA ?_ hn
            rw [wrap_succ hk hm]
            show norm _ _ = upd _ _
            kernel_rfl)
         | (rw [← aft_inr hA]
            exact Done.mk ⟨rfl, by kernel_rfl⟩ (by kernel_rfl)))
  · rintro s k rfl hi hA
    dsimp only at hi ⊢
    rw [← show behFin s = A from hA]
    repeat' ((conv => whnf); first
      | (refine And.intro (fun hb => ?_) (fun hb => ?_) <;> first | (exact absurd hb (by first | assumption | decide)) | (with_reducible exact absurd hb Bool.false_ne_true) | (with_reducible exact absurd hb.symm Bool.false_ne_true) | (exfalso; first | (simp only [LENS] at hb <;> omega) | omega) | ((try rw [hb]); (try simp only [NRMS] at hb); (try subst hb)))
      | (refine Exists.intro ?_ ?_; focus (and_intros <;> first | omega | exact rfl | assumption | (intro _ hh; cases hh; done) | exact all_size (by rfl) | exact size_map (fun _ => rfl) | exact size_one rfl | exact take_size (fun _ => rfl) | exact dsize_one rfl | exact dsize_map (fun _ => rfl) | exact dsize_its (fun _ => rfl) | (simp only [LENS]; omega) | (simp; done) | decide))
      | (intro hfact))
    all_goals (try (conv => whnf))
    exact Done.mk ⟨rfl, by kernel_rfl⟩ (by kernel_rfl)
def bigS (s : Sp) : Bool := decide (1000 < (s.f.length : Int)) || decide (1000 < (s.t.length : Int))
def greatA (u : Str) (a c : List Sp) : Bool := decide (1000 < (u.length : Int)) || decide (20 < (a.length : Int)) || decide (20 < (c.length : Int)) || a.any bigS || c.any bigS
abbrev askI (u : Str) (a c : List Sp) : I := .agg [.str u, .list (sps a), .list (sps c)]
def anyStep2 (p : Sp → Bool) (_ : Unit) (l : List Sp) : Unit ⊕ Bool := if l.any p then .inr true else .inl ()
theorem spec_greatA (u : Str) (a c : List Sp) (ha : a.length ≤ 9223372036854775807) (hc : c.length ≤ 9223372036854775807) : Fn Try.prog F_exchequerlaw16_Ask_great [.v (askI u a c)] (Is (.v (.bool (greatA u a c))) [.no]) := by
  refine of_exchequerlaw16_Ask_great ?_ (by simp)
  by_cases h1 : 1000 < (u.length : Int) ∨ 20 < (a.length : Int) ∨ 20 < (c.length : Int)
  · have hg : greatA u a c = true := by
      unfold greatA
      rcases h1 with h | h | h <;> simp [h]
    rw [hg]
    repeat' ((conv => whnf); first
      | (refine And.intro (fun hb => ?_) (fun hb => ?_) <;> first | (exact absurd hb (by first | assumption | decide)) | (with_reducible exact absurd hb Bool.false_ne_true) | (with_reducible exact absurd hb.symm Bool.false_ne_true) | (exfalso; first | (simp only [LENS] at hb <;> omega) | omega) | ((try rw [hb]); (try simp only [NRMS] at hb); (try subst hb)))
      | (refine Exists.intro ?_ ?_; focus (and_intros <;> first | omega | exact rfl | assumption | (intro _ hh; cases hh; done) | exact all_size (by rfl) | exact size_map (fun _ => rfl) | exact size_one rfl | exact take_size (fun _ => rfl) | exact dsize_one rfl | exact dsize_map (fun _ => rfl) | exact dsize_its (fun _ => rfl) | (simp only [LENS]; omega) | (simp; done) | decide))
      | (intro hfact))
    all_goals (try (conv => whnf))
    all_goals first | exact Done.mk ⟨rfl, by kernel_rfl⟩ (by kernel_rfl) | (exfalso; omega)
  have hg : greatA u a c = (a.any bigS || c.any bigS) := by
    unfold greatA
    rw [decide_eq_false (by omega), decide_eq_false (by omega), decide_eq_false (by omega)]
    simp
  have hAns : runL (anyStep2 bigS) anyFin [a, c] () = greatA u a c := by
    rw [hg]
    cases ha' : a.any bigS <;> cases hc' : c.any bigS <;> simp [runL, anyStep2, anyFin, ha', hc']
  generalize greatA u a c = A at hAns ⊢
  clear hg
  have hm : [a, c].length ≤ maxLen := by simp [maxLen]
  repeat' ((conv => whnf); first
    | (refine And.intro (fun hb => ?_) (fun hb => ?_) <;> first | (exact absurd hb (by first | assumption | decide)) | (with_reducible exact absurd hb Bool.false_ne_true) | (with_reducible exact absurd hb.symm Bool.false_ne_true) | (exfalso; first | (simp only [LENS] at hb <;> omega) | omega) | ((try rw [hb]); (try simp only [NRMS] at hb); (try subst hb)))
    | (refine Exists.intro ?_ ?_; focus (and_intros <;> first | omega | exact rfl | assumption | (intro _ hh; cases hh; done) | exact all_size (by rfl) | exact size_map (fun _ => rfl) | exact size_one rfl | exact take_size (fun _ => rfl) | exact dsize_one rfl | exact dsize_map (fun _ => rfl) | exact dsize_its (fun _ => rfl) | (simp only [LENS]; omega) | (simp; done) | decide))
    | (intro hfact))
  all_goals (try (conv => whnf))
  refine each [a, c] _ _ _ (fun k s => [(29, .v (.int .i64 k))]) (fun k s => True) () (by kernel_rfl) trivial hAns ?_ ?_ <;> clear hAns
  · rintro k ⟨⟩ e he hk hi hA
    have hwk := wrap_succ hk hm
    have hel : e.length ≤ 20 := by
      have := List.mem_of_getElem? he
      simp only [List.mem_cons, List.not_mem_nil, or_false] at this
      rcases this with rfl | rfl <;> omega
    rcases k with _ | _ | k
    · cases he
      have hm2 : a.length ≤ maxLen := by simp only [maxLen]; omega
      dsimp only
      repeat' ((conv => whnf); first
        | (refine And.intro (fun hb => ?_) (fun hb => ?_) <;> first | (exact absurd hb (by first | assumption | decide)) | (with_reducible exact absurd hb Bool.false_ne_true) | (with_reducible exact absurd hb.symm Bool.false_ne_true) | (exfalso; first | (simp only [LENS] at hb <;> omega) | omega) | ((try rw [hb]); (try simp only [NRMS] at hb); (try subst hb)))
        | (refine Exists.intro ?_ ?_; focus (and_intros <;> first | omega | exact rfl | assumption | (intro _ hh; cases hh; done) | exact all_size (by rfl) | exact size_map (fun _ => rfl) | exact size_one rfl | exact take_size (fun _ => rfl) | exact dsize_one rfl | exact dsize_map (fun _ => rfl) | exact dsize_its (fun _ => rfl) | (simp only [LENS]; omega) | (simp; done) | decide))
        | (intro hfact))
      all_goals (try (conv => whnf))
      have hA2 : runL (anyStep bigS) anyFin a () = a.any bigS := any_run _ _ _
      obtain ⟨B, hB⟩ : ∃ B, B = a.any bigS := ⟨_, rfl⟩
      rw [← hB] at hA2
      simp only [anyStep2, ← hB] at hA
      clear hB
      refine each a _ _ _ (fun k s => [(35, .v (.int .i64 k))]) (fun k s => True) () (by kernel_rfl) trivial hA2 ?_ ?_ <;> clear hA2
      · rintro k ⟨⟩ e he hk2 _ hA2
        dsimp only
        have hwk2 := wrap_succ hk2 hm2
        repeat' ((conv => whnf); first
          | (refine And.intro (fun hb => ?_) (fun hb => ?_) <;> first | (exact absurd hb (by first | assumption | decide)) | (with_reducible exact absurd hb Bool.false_ne_true) | (with_reducible exact absurd hb.symm Bool.false_ne_true) | (exfalso; first | (simp only [LENS] at hb <;> omega) | omega) | ((try rw [hb]); (try simp only [NRMS] at hb); (try subst hb)))
          | (refine Exists.intro ?_ ?_; focus (and_intros <;> first | omega | exact rfl | assumption | (intro _ hh; cases hh; done) | exact all_size (by rfl) | exact size_map (fun _ => rfl) | exact size_one rfl | exact take_size (fun _ => rfl) | exact dsize_one rfl | exact dsize_map (fun _ => rfl) | exact dsize_its (fun _ => rfl) | (simp only [LENS]; omega) | (simp; done) | decide))
          | (intro hfact)
          | ((try dsimp only); first | rw [map_get he] | rw [map_getD he] | rw [map_getN he]))
        all_goals (try (conv => whnf))
        all_goals
          simp only [anyStep, bigS, *, decide_true, decide_false, Bool.true_or, Bool.or_true, Bool.or_false, Bool.false_or, if_true, if_false, Bool.false_eq_true] at hA2
          first
          | (refine RoundE.aft hA2 ?_ trivial
             rw [hwk2]
             show norm _ _ = upd _ _
             kernel_rfl)
          | (obtain rfl : true = B := aft_inr hA2
             simp only [if_true] at hA
             rw [← aft_inr hA]
             exact Done.mk ⟨rfl, by kernel_rfl⟩ (by kernel_rfl))
      · rintro ⟨⟩ k rfl _ hA2
        obtain rfl : false = B := hA2
        simp only [if_false, Bool.false_eq_true] at hA
        dsimp only
        repeat' ((conv => whnf); first
          | (refine And.intro (fun hb => ?_) (fun hb => ?_) <;> first | (exact absurd hb (by first | assumption | decide)) | (with_reducible exact absurd hb Bool.false_ne_true) | (with_reducible exact absurd hb.symm Bool.false_ne_true) | (exfalso; first | (simp only [LENS] at hb <;> omega) | omega) | ((try rw [hb]); (try simp only [NRMS] at hb); (try subst hb)))
          | (refine Exists.intro ?_ ?_; focus (and_intros <;> first | omega | exact rfl | assumption | (intro _ hh; cases hh; done) | exact all_size (by rfl) | exact size_map (fun _ => rfl) | exact size_one rfl | exact take_size (fun _ => rfl) | exact dsize_one rfl | exact dsize_map (fun _ => rfl) | exact dsize_its (fun _ => rfl) | (simp only [LENS]; omega) | (simp; done) | decide))
          | (intro hfact))
        all_goals (try (conv => whnf))
        refine RoundE.aft hA ?_ trivial
        rw [hwk]
        show norm _ _ = upd _ _
        kernel_rfl
    · cases he
      have hm2 : c.length ≤ maxLen := by simp only [maxLen]; omega
      dsimp only
      repeat' ((conv => whnf); first
        | (refine And.intro (fun hb => ?_) (fun hb => ?_) <;> first | (exact absurd hb (by first | assumption | decide)) | (with_reducible exact absurd hb Bool.false_ne_true) | (with_reducible exact absurd hb.symm Bool.false_ne_true) | (exfalso; first | (simp only [LENS] at hb <;> omega) | omega) | ((try rw [hb]); (try simp only [NRMS] at hb); (try subst hb)))
        | (refine Exists.intro ?_ ?_; focus (and_intros <;> first | omega | exact rfl | assumption | (intro _ hh; cases hh; done) | exact all_size (by rfl) | exact size_map (fun _ => rfl) | exact size_one rfl | exact take_size (fun _ => rfl) | exact dsize_one rfl | exact dsize_map (fun _ => rfl) | exact dsize_its (fun _ => rfl) | (simp only [LENS]; omega) | (simp; done) | decide))
        | (intro hfact))
      all_goals (try (conv => whnf))
      have hA2 : runL (anyStep bigS) anyFin c () = c.any bigS := any_run _ _ _
      obtain ⟨B, hB⟩ : ∃ B, B = c.any bigS := ⟨_, rfl⟩
      rw [← hB] at hA2
      simp only [anyStep2, ← hB] at hA
      clear hB
      refine each c _ _ _ (fun k s => [(35, .v (.int .i64 k))]) (fun k s => True) () (by kernel_rfl) trivial hA2 ?_ ?_ <;> clear hA2
      · rintro k ⟨⟩ e he hk2 _ hA2
        dsimp only
        have hwk2 := wrap_succ hk2 hm2
        repeat' ((conv => whnf); first
          | (refine And.intro (fun hb => ?_) (fun hb => ?_) <;> first | (exact absurd hb (by first | assumption | decide)) | (with_reducible exact absurd hb Bool.false_ne_true) | (with_reducible exact absurd hb.symm Bool.false_ne_true) | (exfalso; first | (simp only [LENS] at hb <;> omega) | omega) | ((try rw [hb]); (try simp only [NRMS] at hb); (try subst hb)))
          | (refine Exists.intro ?_ ?_; focus (and_intros <;> first | omega | exact rfl | assumption | (intro _ hh; cases hh; done) | exact all_size (by rfl) | exact size_map (fun _ => rfl) | exact size_one rfl | exact take_size (fun _ => rfl) | exact dsize_one rfl | exact dsize_map (fun _ => rfl) | exact dsize_its (fun _ => rfl) | (simp only [LENS]; omega) | (simp; done) | decide))
          | (intro hfact)
          | ((try dsimp only); first | rw [map_get he] | rw [map_getD he] | rw [map_getN he]))
        all_goals (try (conv => whnf))
        all_goals
          simp only [anyStep, bigS, *, decide_true, decide_false, Bool.true_or, Bool.or_true, Bool.or_false, Bool.false_or, if_true, if_false, Bool.false_eq_true] at hA2
          first
          | (refine RoundE.aft hA2 ?_ trivial
             rw [hwk2]
             show norm _ _ = upd _ _
             kernel_rfl)
          | (obtain rfl : true = B := aft_inr hA2
             simp only [if_true] at hA
             rw [← aft_inr hA]
             exact Done.mk ⟨rfl, by kernel_rfl⟩ (by kernel_rfl))
      · rintro ⟨⟩ k rfl _ hA2
        obtain rfl : false = B := hA2
        simp only [if_false, Bool.false_eq_true] at hA
        dsimp only
        repeat' ((conv => whnf); first
          | (refine And.intro (fun hb => ?_) (fun hb => ?_) <;> first | (exact absurd hb (by first | assumption | decide)) | (with_reducible exact absurd hb Bool.false_ne_true) | (with_reducible exact absurd hb.symm Bool.false_ne_true) | (exfalso; first | (simp only [LENS] at hb <;> omega) | omega) | ((try rw [hb]); (try simp only [NRMS] at hb); (try subst hb)))
          | (refine Exists.intro ?_ ?_; focus (and_intros <;> first | omega | exact rfl | assumption | (intro _ hh; cases hh; done) | exact all_size (by rfl) | exact size_map (fun _ => rfl) | exact size_one rfl | exact take_size (fun _ => rfl) | exact dsize_one rfl | exact dsize_map (fun _ => rfl) | exact dsize_its (fun _ => rfl) | (simp only [LENS]; omega) | (simp; done) | decide))
          | (intro hfact))
        all_goals (try (conv => whnf))
        refine RoundE.aft hA ?_ trivial
        rw [hwk]
        show norm _ _ = upd _ _
        kernel_rfl
    · exact absurd hk (by simp only [List.length_cons, List.length_nil]; omega)
  · rintro ⟨⟩ k rfl hi hA
    subst hA
    dsimp only
    repeat' ((conv => whnf); first
      | (refine And.intro (fun hb => ?_) (fun hb => ?_) <;> first | (exact absurd hb (by first | assumption | decide)) | (with_reducible exact absurd hb Bool.false_ne_true) | (with_reducible exact absurd hb.symm Bool.false_ne_true) | (exfalso; first | (simp only [LENS] at hb <;> omega) | omega) | ((try rw [hb]); (try simp only [NRMS] at hb); (try subst hb)))
      | (refine Exists.intro ?_ ?_; focus (and_intros <;> first | omega | exact rfl | assumption | (intro _ hh; cases hh; done) | exact all_size (by rfl) | exact size_map (fun _ => rfl) | exact size_one rfl | exact take_size (fun _ => rfl) | exact dsize_one rfl | exact dsize_map (fun _ => rfl) | exact dsize_its (fun _ => rfl) | (simp only [LENS]; omega) | (simp; done) | decide))
      | (intro hfact))
    all_goals (try (conv => whnf))
    exact Done.mk ⟨rfl, by kernel_rfl⟩ (by kernel_rfl)
end Go.Ab

