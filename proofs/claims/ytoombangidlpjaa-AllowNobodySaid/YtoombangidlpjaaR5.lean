/- One text of the proof whose last text says what is proved. -/
import Derived.Test.YtoombangidlpjaaR4
set_option linter.unusedVariables false
set_option linter.unusedSimpArgs false
set_option maxRecDepth 100000
set_option maxHeartbeats 2000000
namespace Go.Ab
open Go.Proofs

theorem endsI_gt (a b : Str) : 0 < endsI a b ↔ EndGt a b := by
  unfold endsI EndGt cmpS
  have h1 : a < b ∨ a = b ∨ b < a := by grind
  split
  · simp_all
  · split
    · simp_all
    · split
      · simp_all
      · split
        · simp_all; grind
        · split <;> simp_all
def SortNil : Prop := Fn Try.prog 54 [.v (.list []), .v (.fn 55)] (Is (.tup []) [.no, .no])
theorem CallWp.sort {l : List Sp} {args : List SV} {Q : SV → List SV → Prop} (h : Fn Try.prog 54 args fun r outs => ∃ p : List Sp, p.Perm l ∧ (p.Pairwise fun x y => x.f ≤ y.f) ∧ r = .tup [] ∧ outs = [.vec 41 2 (sps p), .no])
    (k : ∀ p : List Sp, p.Perm l → (p.Pairwise fun x y => x.f ≤ y.f) → Q (.tup []) [.vec 41 2 (sps p), .no]) : CallWp Try.prog 54 args Q := by
  refine CallWp.mk ⟨_, h, ?_⟩
  rintro _ _ ⟨p, h1, h2, rfl, rfl⟩
  exact k p h1 h2
theorem sub_t (u : Sp) : u.toI.sub [1] = some (1 + 0, .str u.t) := rfl
theorem sub_f (u : Sp) : u.toI.sub [0] = some (0 + 0, .str u.f) := rfl
theorem hit_t {e : Nat} {l : List I} {n : Nat} {u : Sp} (h : l[n]? = some u.toI) : (SV.vec e 2 l).hit 0 ([n] ++ [1]) = some (n * 2 + (1 + 0), .item (.str u.t)) := by
  simp [SV.hit, hitV, h, hitI, sub_t]
theorem put_t {l : List I} {n : Nat} {u : Sp} {s : Str} (h : l[n]? = some u.toI) : putV l ([n] ++ [1]) (.str s) = l.set n (⟨u.f, s⟩ : Sp).toI := by
  simp [putV, h]
  rfl
theorem spec_union (hnil : SortNil) (l : List Sp) (hl : l.length ≤ 1000) : Fn Try.prog F_span_Union [.v (.list (sps l))] (Is (.v (.list (sps (uni l)))) [.no]) := by
  refine of_span_Union ?_ (by simp)
  have hcl := spec_sclone l (by omega)
  have hdl := spec_delete l (by omega)
  have hql : (l.filter goodB).length ≤ 1000 := Nat.le_trans (List.length_filter_le ..) hl
  rcases hq : l.filter goodB with _ | ⟨q0, q'⟩
  · rw [hq] at hdl
    have hu : uni l = [] := by
      unfold uni
      have : (l.filter fun s => decide (SpR s)) = [] := hq
      rw [this, List.mergeSort_nil]
      rfl
    rw [hu]
    repeat' ((conv => whnf); first
      | (refine And.intro (fun hb => ?_) (fun hb => ?_) <;> first | (exact absurd hb (by first | assumption | decide)) | (rw [hb]) | skip)
      | (refine Exists.intro ?_ ?_; focus (and_intros <;> first | omega | exact rfl | assumption | (intro _ hh; cases hh; done) | exact all_size (by rfl) | (simp; done) | decide))
      | (intro hfact)
      | ((with_reducible apply Drawn.by0); (focus kernel_rfl); intro hfact)
      | (refine CallWp.mk ⟨_, hcl, ?_⟩; rintro _ _ ⟨rfl, rfl⟩)
      | (refine CallWp.mk ⟨_, hdl, ?_⟩; rintro _ _ ⟨rfl, rfl⟩)
      | (refine CallWp.mk ⟨_, hnil, ?_⟩; rintro _ _ ⟨rfl, rfl⟩))
    all_goals (try (conv => whnf))
    refine LoopWq.by (X := Unit) (fun _ => []) (fun _ => True) (fun _ => 0) () (by kernel_rfl) trivial ?_
    rintro _ _
    repeat' ((conv => whnf); first
      | (refine And.intro (fun hb => ?_) (fun hb => ?_) <;> first | (exact absurd hb (by first | assumption | decide)) | (rw [hb]) | skip)
      | (refine Exists.intro ?_ ?_; focus (and_intros <;> first | omega | exact rfl | assumption | (intro _ hh; cases hh; done) | exact all_size (by rfl) | (simp; done) | decide))
      | (intro hfact)
      | ((with_reducible apply Drawn.by0); (focus kernel_rfl); intro hfact))
    all_goals (try (conv => whnf))
    exact Done.mk ⟨rfl, by kernel_rfl⟩ (by kernel_rfl)
  · rw [hq] at hdl hql
    have hsort := spec_sort (q0 :: q') (by simp) (by omega)
    repeat' ((conv => whnf); first
      | (refine And.intro (fun hb => ?_) (fun hb => ?_) <;> first | (exact absurd hb (by first | assumption | decide)) | (rw [hb]) | skip)
      | (refine Exists.intro ?_ ?_; focus (and_intros <;> first | omega | exact rfl | assumption | (intro _ hh; cases hh; done) | exact all_size (by rfl) | (simp; done) | decide))
      | (intro hfact)
      | ((with_reducible apply Drawn.by0); (focus kernel_rfl); intro hfact)
      | (refine CallWp.mk ⟨_, hcl, ?_⟩; rintro _ _ ⟨rfl, rfl⟩)
      | (refine CallWp.mk ⟨_, hdl, ?_⟩; rintro _ _ ⟨rfl, rfl⟩)
      | (refine CallWp.sort hsort (fun p hp1 hp2 => ?_)))
    all_goals (try (conv => whnf))
    have hpl : p.length ≤ 1000 := by rw [hp1.length_eq]; exact hql
    have hmax : p.length ≤ maxLen := by simp only [maxLen]; omega
    have hres : unionOf p = uni l := union_any (by rw [show (l.filter fun s => decide (SpR s)) = l.filter goodB from rfl, hq]; exact hp1) hp2
    refine LoopWq.by (X := Nat × List Sp) (fun x => [(3, .vec 41 2 (sps x.2)), (14, .v (.int .i64 x.1))]) (fun x => x.1 ≤ p.length ∧ x.2 = unionOf (p.take x.1) ∧ x.2.length ≤ x.1) (fun x => p.length - x.1)
      (0, []) (by kernel_rfl) ⟨Nat.zero_le _, rfl, Nat.le_refl _⟩ ?_
    rintro ⟨k, out⟩ ⟨h1, h2, h3⟩
    dsimp only at h1 h2 h3 ⊢
    by_cases hk : k < p.length
    case neg =>
      have hlt : ¬ decide ((k : Int) < ((sps p).length : Int)) = true := by simp; omega
      rw [show p.take k = p from List.take_of_length_le (by omega), hres] at h2
      subst h2
      repeat' ((conv => whnf); first
        | (refine And.intro (fun hb => ?_) (fun hb => ?_) <;> first | (exact absurd hb (by first | assumption | decide)) | (rw [hb]) | skip)
        | (refine Exists.intro ?_ ?_; focus (and_intros <;> first | omega | exact rfl | assumption | (intro _ hh; cases hh; done) | exact all_size (by rfl) | (simp; done) | decide))
        | (intro hfact)
        | ((with_reducible apply Drawn.by0); (focus kernel_rfl); intro hfact))
      all_goals (try (conv => whnf))
      exact Done.mk ⟨rfl, by kernel_rfl⟩ (by kernel_rfl)
    obtain ⟨e, he⟩ : ∃ e, p[k]? = some e := ⟨_, List.getElem?_eq_getElem hk⟩
    have hlt : ¬ decide ((k : Int) < ((sps p).length : Int)) = false := by simp [hk]
    have hg : (sps p)[Int.toNat (k : Int)]? = some e.toI := sps_get he
    have hh := hit_at (e := 41) (sz := 2) hg
    have hkl : Int.toNat (k : Int) < (sps p).length := by simp [hk]
    have hround : p.length - (k + 1) < p.length - k := by omega
    have hsucc : unionOf (p.take (k + 1)) = uStep out e := by
      rw [h2]
      unfold unionOf
      rw [List.take_add_one, he, List.foldl_append]
      rfl
    have hl1 : ((sps out).length + [e.toI].length) * 32 ≤ 140737488355328 := by simp; omega
    have hl2 : (sps out).length + [e.toI].length ≤ maxLen := by simp [maxLen]; omega
    have hl3 : ∀ u ∈ [e.toI], u.size = 2 := sps_size [e]
    have hap : sps out ++ [e.toI] = sps (out ++ [e]) := by simp
    rcases List.eq_nil_or_concat out with rfl | ⟨o, lst, ho⟩
    · repeat' ((conv => whnf); first
        | (refine And.intro (fun hb => ?_) (fun hb => ?_) <;> first | (exact absurd hb (by first | assumption | decide)) | (rw [hb]) | skip)
        | (refine Exists.intro ?_ ?_; focus (and_intros <;> first | omega | exact rfl | assumption | (intro _ hh; cases hh; done) | exact all_size (by rfl) | (simp; done) | decide))
        | (intro hfact)
        | ((with_reducible apply Drawn.by0); (focus kernel_rfl); intro hfact)
        | ((try dsimp only); rw [hh]))
      all_goals (try (conv => whnf))
      refine Round.by (k + 1, [e]) ?_ ⟨hk, by rw [hsucc]; rfl, by simp⟩ hround
      rw [wrap_succ hk hmax]
      show norm _ _ = upd _ _
      kernel_rfl
    rw [List.concat_eq_append] at ho
    subst ho
    have hol : (sps (o ++ [lst])).length = o.length + 1 := by simp
    have n1 : ¬ decide (((sps (o ++ [lst])).length : Int) = 0) = true := by rw [hol]; simp; omega
    have hw : IntKind.i64.wrap (((sps (o ++ [lst])).length : Int) - 1) = (o.length : Int) := by
      rw [hol]
      exact (wrap_id (by simp at h3; omega)).trans (by omega)
    have h0 : 0 ≤ IntKind.i64.wrap (((sps (o ++ [lst])).length : Int) - 1) := by rw [hw]; omega
    have hlt2 : Int.toNat (IntKind.i64.wrap (((sps (o ++ [lst])).length : Int) - 1)) < (sps (o ++ [lst])).length := by rw [hw, hol]; omega
    have hgl : (sps (o ++ [lst]))[Int.toNat (IntKind.i64.wrap (((sps (o ++ [lst])).length : Int) - 1))]? = some lst.toI := by
      rw [hw]
      simp
    have hhl := hit_t (e := 41) hgl
    rw [uStep_append] at hsucc
    have hput : putV (sps (o ++ [lst])) ([Int.toNat (IntKind.i64.wrap (((sps (o ++ [lst])).length : Int) - 1))] ++ [1]) (.str e.t) = sps (o ++ [⟨lst.f, e.t⟩]) := by
      rw [put_t hgl, hw]
      simp
    by_cases c1 : lst.t = []
    · have n2 : ¬ (!decide (lst.t = [])) = true := by simp [c1]
      by_cases c2 : EndGt e.t lst.t
      · have n3 : ¬ decide (0 < endsI e.t lst.t) = false := by simp [endsI_gt, c2]
        rw [if_neg (fun h => h.1 c1), if_pos c2] at hsucc
        repeat' ((conv => whnf); first
          | (refine And.intro (fun hb => ?_) (fun hb => ?_) <;> first | (exact absurd hb (by first | assumption | decide)) | (rw [hb]) | skip)
          | (refine Exists.intro ?_ ?_; focus (and_intros <;> first | omega | exact rfl | assumption | (intro _ hh; cases hh; done) | exact all_size (by rfl) | (simp; done) | decide))
          | (intro hfact)
          | ((with_reducible apply Drawn.by0); (focus kernel_rfl); intro hfact)
          | ((try dsimp only); rw [hh])
          | ((try dsimp only); rw [hhl])
          | (refine CallIs.mk ⟨_, _, spec_ends _ _, ?_⟩))
        all_goals (try (conv => whnf))
        refine Round.by (k + 1, o ++ [⟨lst.f, e.t⟩]) ?_ ⟨hk, hsucc.symm, by simp at h3 ⊢; omega⟩ hround
        dsimp only
        rw [wrap_succ hk hmax, ← hput]
        show norm _ _ = upd _ _
        kernel_rfl
      · have n3 : ¬ decide (0 < endsI e.t lst.t) = true := by simp [endsI_gt, c2]
        rw [if_neg (fun h => h.1 c1), if_neg c2] at hsucc
        repeat' ((conv => whnf); first
          | (refine And.intro (fun hb => ?_) (fun hb => ?_) <;> first | (exact absurd hb (by first | assumption | decide)) | (rw [hb]) | skip)
          | (refine Exists.intro ?_ ?_; focus (and_intros <;> first | omega | exact rfl | assumption | (intro _ hh; cases hh; done) | exact all_size (by rfl) | (simp; done) | decide))
          | (intro hfact)
          | ((with_reducible apply Drawn.by0); (focus kernel_rfl); intro hfact)
          | ((try dsimp only); rw [hh])
          | ((try dsimp only); rw [hhl])
          | (refine CallIs.mk ⟨_, _, spec_ends _ _, ?_⟩))
        all_goals (try (conv => whnf))
        refine Round.by (k + 1, o ++ [lst]) ?_ ⟨hk, hsucc.symm, by simp at h3 ⊢; omega⟩ hround
        dsimp only
        rw [wrap_succ hk hmax]
        show norm _ _ = upd _ _
        kernel_rfl
    have n2 : ¬ (!decide (lst.t = [])) = false := by simp [c1]
    by_cases c3 : lst.t < e.f
    · have n4 : ¬ Op.bytesLess lst.t e.f = false := by simp [bless_eq, c3]
      rw [if_pos ⟨c1, c3⟩] at hsucc
      repeat' ((conv => whnf); first
        | (refine And.intro (fun hb => ?_) (fun hb => ?_) <;> first | (exact absurd hb (by first | assumption | decide)) | (rw [hb]) | skip)
        | (refine Exists.intro ?_ ?_; focus (and_intros <;> first | omega | exact rfl | assumption | (intro _ hh; cases hh; done) | exact all_size (by rfl) | (simp; done) | decide))
        | (intro hfact)
        | ((with_reducible apply Drawn.by0); (focus kernel_rfl); intro hfact)
        | ((try dsimp only); rw [hh])
        | ((try dsimp only); rw [hhl])
        | (refine CallIs.mk ⟨_, _, spec_ends _ _, ?_⟩))
      all_goals (try (conv => whnf))
      refine Round.by (k + 1, o ++ [lst] ++ [e]) ?_ ⟨hk, hsucc.symm, by simp at h3 ⊢; omega⟩ hround
      dsimp only
      rw [wrap_succ hk hmax, ← hap]
      show norm _ _ = upd _ _
      kernel_rfl
    · have n4 : ¬ Op.bytesLess lst.t e.f = true := by simp [bless_eq, c3]
      by_cases c2 : EndGt e.t lst.t
      · have n3 : ¬ decide (0 < endsI e.t lst.t) = false := by simp [endsI_gt, c2]
        rw [if_neg (fun h => c3 h.2), if_pos c2] at hsucc
        repeat' ((conv => whnf); first
          | (refine And.intro (fun hb => ?_) (fun hb => ?_) <;> first | (exact absurd hb (by first | assumption | decide)) | (rw [hb]) | skip)
          | (refine Exists.intro ?_ ?_; focus (and_intros <;> first | omega | exact rfl | assumption | (intro _ hh; cases hh; done) | exact all_size (by rfl) | (simp; done) | decide))
          | (intro hfact)
          | ((with_reducible apply Drawn.by0); (focus kernel_rfl); intro hfact)
          | ((try dsimp only); rw [hh])
          | ((try dsimp only); rw [hhl])
          | (refine CallIs.mk ⟨_, _, spec_ends _ _, ?_⟩))
        all_goals (try (conv => whnf))
        refine Round.by (k + 1, o ++ [⟨lst.f, e.t⟩]) ?_ ⟨hk, hsucc.symm, by simp at h3 ⊢; omega⟩ hround
        dsimp only
        rw [wrap_succ hk hmax, ← hput]
        show norm _ _ = upd _ _
        kernel_rfl
      · have n3 : ¬ decide (0 < endsI e.t lst.t) = true := by simp [endsI_gt, c2]
        rw [if_neg (fun h => c3 h.2), if_neg c2] at hsucc
        repeat' ((conv => whnf); first
          | (refine And.intro (fun hb => ?_) (fun hb => ?_) <;> first | (exact absurd hb (by first | assumption | decide)) | (rw [hb]) | skip)
          | (refine Exists.intro ?_ ?_; focus (and_intros <;> first | omega | exact rfl | assumption | (intro _ hh; cases hh; done) | exact all_size (by rfl) | (simp; done) | decide))
          | (intro hfact)
          | ((with_reducible apply Drawn.by0); (focus kernel_rfl); intro hfact)
          | ((try dsimp only); rw [hh])
          | ((try dsimp only); rw [hhl])
          | (refine CallIs.mk ⟨_, _, spec_ends _ _, ?_⟩))
        all_goals (try (conv => whnf))
        refine Round.by (k + 1, o ++ [lst]) ?_ ⟨hk, hsucc.symm, by simp at h3 ⊢; omega⟩ hround
        dsimp only
        rw [wrap_succ hk hmax]
        show norm _ _ = upd _ _
        kernel_rfl
end Go.Ab

