/- One text of the proof whose last text says what is proved. -/
import Derived.Test.YtoombangidlpjaaR5
import Derived.Shelf.SlSortCmp.NoneTotal
import Derived.Test.YtoombangidlpjaaRQ3
set_option linter.unusedVariables false
set_option linter.unusedSimpArgs false
set_option maxRecDepth 100000
namespace Go.Ab
open Go.Proofs Go.Shelf

theorem sortNil : SortNil := by
  intro G σ Fr w cargs hok hcl hargs
  have hc0 : RepV G (.list []) (cargs.getD 0 undef) := (hargs 0 _ rfl).2
  have hc1 : RepV G (.fn 55) (cargs.getD 1 undef) := (hargs 1 _ rfl).2
  rw [RepV.fn] at hc1
  obtain ⟨ad, cap, hc, _⟩ := RepV.list.1 hc0
  have hca : cargs = #[.slice ad 0 cap, .func (.func 55) #[] #[]] := by
    rw [← hc1, show (.slice ad 0 cap : Value) = cargs.getD 0 undef from hc.symm]
    apply Array.ext
    · simpa using hcl
    · intro j h1 h2
      have : j = 0 ∨ j = 1 := by simp at h2; omega
      rcases this with rfl | rfl <;> simp [Array.getD, h1]
  have hcall := AnyF.slices_SortFunc_none sortT ad cap (.func (.func 55) #[] #[]) w
  rw [hca]
  refine Calls.mono hcall ?_
  rintro e w' ⟨rfl, rfl⟩
  refine ⟨_, _, _, G, fun _ => none, rfl, ⟨rfl, rfl⟩, Mem.le.refl G, ⟨hok.fixed, fun b lab h => by (cases h), fun b b' lab h => by (cases h), hok.frame, rfl, rfl, rfl, Nat.le_refl _, hok.apart⟩, rfl, ⟨#[], rfl, rfl⟩, rfl, ?_⟩
  intro i sv hi
  have : sv = .no := by
    have := List.mem_of_getElem? hi
    simpa using this
  subst this
  exact ⟨rfl, trivial⟩
end Go.Ab

set_option maxRecDepth 100000
set_option maxHeartbeats 4000000
namespace Go.Ab
open Go.Proofs

theorem uStep_length (u : List Sp) (s : Sp) : (uStep u s).length ≤ u.length + 1 := by
  unfold uStep
  split
  · simp
  · split
    · simp
    · split
      · simp
      · omega
theorem unionOf_length (p : List Sp) : (unionOf p).length ≤ p.length := by
  have : ∀ (p u : List Sp), (p.foldl uStep u).length ≤ u.length + p.length := by
    intro p
    induction p with
    | nil => intro u; simp
    | cons s r ih =>
      intro u
      have h1 := ih (uStep u s)
      have h2 := uStep_length u s
      simp only [List.foldl_cons, List.length_cons]
      omega
  have h := this p []
  rw [List.length_nil, Nat.zero_add] at h
  exact h
theorem uni_length (l : List Sp) : (uni l).length ≤ l.length := by
  unfold uni
  refine Nat.le_trans (unionOf_length _) ?_
  rw [List.length_mergeSort]
  exact List.length_filter_le ..
end Go.Ab


set_option maxRecDepth 100000
set_option maxHeartbeats 1000000
namespace Go.Ab
open Go.Proofs

theorem spec_cov1 (u s : Sp) : Fn Try.prog F_span_Covers_1 [.v u.toI, .rp s.toI] (Is (.v (.bool (decide (SpIn s u)))) [.no, .no]) := by
  refine of_span_Covers_1 ?_ (by simp)
  repeat' ((conv => whnf); first
    | (refine And.intro (fun hb => ?_) (fun hb => ?_) <;> first | (exact absurd hb (by first | assumption | decide)) | (rw [hb]) | skip)
    | (refine Exists.intro ?_ ?_; focus (and_intros <;> first | omega | exact rfl | assumption | (intro _ hh; cases hh; done) | exact all_size (by rfl) | (simp; done) | decide))
    | (intro hfact)
    | ((with_reducible apply Drawn.by0); (focus kernel_rfl); intro hfact)
    | (refine CallWp.mk ⟨_, spec_inside _ _, ?_⟩; rintro _ _ ⟨rfl, rfl⟩))
  all_goals (try (conv => whnf))
  exact Done.mk ⟨rfl, by kernel_rfl⟩ (by kernel_rfl)
def inB (s u : Sp) : Bool := decide (SpIn s u)
theorem idxF_any (p : Sp → Bool) : ∀ (k : Nat) (l : List Sp), decide (0 ≤ idxF p k l) = l.any p
  | k, [] => rfl
  | k, s :: r => by
    unfold idxF
    rw [List.any_cons]
    split
    · rename_i h; simp [h]
    · rename_i h; simp [h, idxF_any p (k + 1) r]
theorem spec_indexC (s : Sp) (l : List Sp) (hl : l.length ≤ 1000000) : Fn Try.prog F_slices_IndexFunc_L_api_Span_api_Span [.v (.list (sps l)), .v (.clo 71 [s.toI])] (Is (.v (.int .i64 (idxF (inB s) 0 l))) [.no, .no]) := by
  refine of_slices_IndexFunc_L_api_Span_api_Span ?_ (by simp)
  have hmax : l.length ≤ maxLen := by simp only [maxLen]; omega
  repeat' ((conv => whnf); first
    | (refine And.intro (fun hb => ?_) (fun hb => ?_) <;> first | (exact absurd hb (by first | assumption | decide)) | (rw [hb]) | skip)
    | (refine Exists.intro ?_ ?_; focus (and_intros <;> first | omega | exact rfl | assumption | (intro _ hh; cases hh; done) | exact all_size (by rfl) | (simp; done) | decide))
    | (intro hfact)
    | ((with_reducible apply Drawn.by0); (focus kernel_rfl); intro hfact))
  all_goals (try (conv => whnf))
  refine LoopWq.by (X := Nat) (fun x => [(8, .v (.int .i64 x))]) (fun x => x ≤ l.length ∧ idxF (inB s) x (l.drop x) = idxF (inB s) 0 l) (fun x => l.length - x)
    0 (by kernel_rfl) ⟨Nat.zero_le _, rfl⟩ ?_
  rintro k ⟨h1, h2⟩
  by_cases hk : k < l.length
  · obtain ⟨e, he⟩ : ∃ e, l[k]? = some e := ⟨_, List.getElem?_eq_getElem hk⟩
    have hg : (sps l)[Int.toNat (k : Int)]? = some e.toI := sps_get he
    have hlt : ¬ decide ((k : Int) < ((sps l).length : Int)) = false := by simp [hk]
    have hkl : Int.toNat (k : Int) < (sps l).length := by simp [hk]
    have hke : l[k] = e := by rw [List.getElem?_eq_getElem hk] at he; simpa using he
    rw [List.drop_eq_getElem_cons hk, hke] at h2
    repeat' ((conv => whnf); first
      | (refine And.intro (fun hb => ?_) (fun hb => ?_) <;> first | (exact absurd hb (by first | assumption | decide)) | (rw [hb]) | skip)
      | (refine Exists.intro ?_ ?_; focus (and_intros <;> first | omega | exact rfl | assumption | (intro _ hh; cases hh; done) | exact all_size (by rfl) | (simp; done) | decide))
      | (intro hfact)
      | ((with_reducible apply Drawn.by0); (focus kernel_rfl); intro hfact)
      | ((try dsimp only); rw [hg])
      | (refine CallWp.mk ⟨_, spec_cov1 _ _, ?_⟩; rintro _ _ ⟨rfl, rfl⟩))
    all_goals (try (conv => whnf))
    · refine Done.mk ⟨congrArg (fun n => SV.v (.int .i64 n)) ?_, by kernel_rfl⟩ (by kernel_rfl)
      rw [← h2, idxF, if_pos (by assumption)]
    · refine Round.by (k + 1) ?_ ?_ ?_
      · rw [wrap_succ hk hmax]
        show norm _ _ = upd _ _
        kernel_rfl
      · refine ⟨hk, ?_⟩
        rw [← h2, idxF, if_neg (by have := hb; simp only [inB]; simp at this ⊢; exact this)]
      · show l.length - (k + 1) < l.length - k
        omega
  · have hlt : ¬ decide ((k : Int) < ((sps l).length : Int)) = true := by simp; omega
    repeat' ((conv => whnf); first
      | (refine And.intro (fun hb => ?_) (fun hb => ?_) <;> first | (exact absurd hb (by first | assumption | decide)) | (rw [hb]) | skip)
      | (refine Exists.intro ?_ ?_; focus (and_intros <;> first | omega | exact rfl | assumption | (intro _ hh; cases hh; done) | exact all_size (by rfl) | (simp; done) | decide))
      | (intro hfact)
      | ((with_reducible apply Drawn.by0); (focus kernel_rfl); intro hfact))
    all_goals (try (conv => whnf))
    refine Done.mk ⟨congrArg (fun n => SV.v (.int .i64 n)) ?_, by kernel_rfl⟩ (by kernel_rfl)
    rw [← h2, List.drop_eq_nil_of_le (by omega)]
    rfl
theorem spec_contC (s : Sp) (l : List Sp) (hl : l.length ≤ 1000000) : Fn Try.prog F_slices_ContainsFunc_L_api_Span_api_Span [.v (.list (sps l)), .v (.clo 71 [s.toI])] (Is (.v (.bool (l.any (inB s)))) [.no, .no]) := by
  refine of_slices_ContainsFunc_L_api_Span_api_Span ?_ (by simp)
  have hi := spec_indexC s l hl
  repeat' ((conv => whnf); first
    | (refine And.intro (fun hb => ?_) (fun hb => ?_) <;> first | (exact absurd hb (by first | assumption | decide)) | (rw [hb]) | skip)
    | (refine Exists.intro ?_ ?_; focus (and_intros <;> first | omega | exact rfl | assumption | (intro _ hh; cases hh; done) | exact all_size (by rfl) | (simp; done) | decide))
    | (intro hfact)
    | ((with_reducible apply Drawn.by0); (focus kernel_rfl); intro hfact)
    | (refine CallWp.mk ⟨_, hi, ?_⟩; rintro _ _ ⟨rfl, rfl⟩))
  all_goals (try (conv => whnf))
  refine Done.mk ⟨SV.bool_congr ?_, by kernel_rfl⟩ (by kernel_rfl)
  rw [← idxF_any (inB s) 0 l]
theorem spec_covers (l : List Sp) (s : Sp) (hl : l.length ≤ 1000) : Fn Try.prog F_span_Covers [.v (.list (sps l)), .v s.toI] (Is (.v (.bool (decide (RCov l s)))) [.no, .no]) := by
  refine of_span_Covers ?_ (by simp)
  have hu := spec_union sortNil l hl
  have hul := uni_length l
  have hc := spec_contC s (uni l) (by omega)
  repeat' ((conv => whnf); first
    | (refine And.intro (fun hb => ?_) (fun hb => ?_) <;> first | (exact absurd hb (by first | assumption | decide)) | (rw [hb]) | skip)
    | (refine Exists.intro ?_ ?_; focus (and_intros <;> first | omega | exact rfl | assumption | (intro _ hh; cases hh; done) | exact all_size (by rfl) | (simp; done) | decide))
    | (intro hfact)
    | ((with_reducible apply Drawn.by0); (focus kernel_rfl); intro hfact)
    | (refine CallWp.mk ⟨_, hu, ?_⟩; rintro _ _ ⟨rfl, rfl⟩)
    | (refine CallWp.mk ⟨_, hc, ?_⟩; rintro _ _ ⟨rfl, rfl⟩))
  all_goals (try (conv => whnf))
  refine Done.mk ⟨SV.bool_congr ?_, by kernel_rfl⟩ (by kernel_rfl)
  rw [Bool.eq_iff_iff, List.any_eq_true, decide_eq_true_eq, ← cov_iff]
  simp [inB]
end Go.Ab


set_option maxRecDepth 100000
set_option maxHeartbeats 4000000
namespace Go.Ab
open Go.Proofs

theorem spec_srminus (l : List Sp) (s : Sp) (hl : l.length ≤ 900) : Fn Try.prog F_exchequerref05_Minus [.v (.list (sps l)), .v s.toI] (Is (.v (.list (sps (rMinus l s)))) [.no, .no]) := by
  refine of_exchequerref05_Minus ?_ (by simp)
  have hap : [] ++ sps l ++ [s.toI] = sps (l ++ [s]) := by simp
  have b1 : (([] : List I).length + (sps l).length) * 32 ≤ 140737488355328 := by rw [List.length_map]; show (0 + l.length) * 32 ≤ _; omega
  have b2 : ([] : List I).length + (sps l).length ≤ maxLen := by rw [List.length_map]; show 0 + l.length ≤ 9223372036854775807; omega
  have b3 := sps_size l
  have hll : ([] ++ sps l).length = l.length := by simp
  have d1 : (([] ++ sps l).length + [s.toI].length) * 32 ≤ 140737488355328 := by rw [hll]; show (l.length + 1) * 32 ≤ _; omega
  have d2 : ([] ++ sps l).length + [s.toI].length ≤ maxLen := by rw [hll]; show l.length + 1 ≤ 9223372036854775807; omega
  have d3 : ∀ u ∈ [s.toI], u.size = 2 := sps_size [s]
  have hE := spec_sends (l ++ [s]) (by simp; omega)
  rw [← hap] at hE
  have hEl : (endsM (l ++ [s])).length ≤ 2000 := by
    have := endsM_length (l ++ [s])
    simp at this
    omega
  unfold rMinus
  generalize endsM (l ++ [s]) = E at hE hEl
  have hm : E.length ≤ maxLen := by simp only [maxLen]; omega
  have hmade := spec_made E (E.map (rMinP l s)) (by simp) (by omega)
  repeat' ((conv => whnf); first
    | (refine And.intro (fun hb => ?_) (fun hb => ?_) <;> first | (exact absurd hb (by first | assumption | decide)) | (rw [hb]) | skip)
    | (refine Exists.intro ?_ ?_; focus (and_intros <;> first | omega | exact rfl | assumption | (intro _ hh; cases hh; done) | exact all_size (by rfl) | (simp; done) | decide))
    | (intro hfact)
    | ((with_reducible apply Drawn.by0); (focus kernel_rfl); intro hfact)
    | (refine CallWp.mk ⟨_, hE, ?_⟩; rintro _ _ ⟨rfl, rfl⟩)
    | (refine CallIs.mk ⟨_, _, hE, ?_⟩))
  all_goals (try (conv => whnf))
  refine LoopWq.by (X := Nat) (fun x => [(6, .vec 4 1 (bools ((E.take x).map (rMinP l s)))), (7, .v (.int .i64 x))]) (fun x => x ≤ E.length) (fun x => E.length - x)
    0 (by rw [List.take_zero]; kernel_rfl) (Nat.zero_le _) ?_
  intro k h1
  by_cases hk : k < E.length
  case neg =>
    have hlt : ¬ decide ((k : Int) < ((strs E).length : Int)) = true := by simp; omega
    rw [show E.take k = E from List.take_of_length_le (by omega)]
    repeat' ((conv => whnf); first
      | (refine And.intro (fun hb => ?_) (fun hb => ?_) <;> first | (exact absurd hb (by first | assumption | decide)) | (rw [hb]) | skip)
      | (refine Exists.intro ?_ ?_; focus (and_intros <;> first | omega | exact rfl | assumption | (intro _ hh; cases hh; done) | exact all_size (by rfl) | (simp; done) | decide))
      | (intro hfact)
      | ((with_reducible apply Drawn.by0); (focus kernel_rfl); intro hfact)
      | (refine CallWp.mk ⟨_, hmade, ?_⟩; rintro _ _ ⟨rfl, rfl⟩))
    all_goals (try (conv => whnf))
    exact Done.mk ⟨rfl, by kernel_rfl⟩ (by kernel_rfl)
  obtain ⟨e, he⟩ : ∃ e, E[k]? = some e := ⟨_, List.getElem?_eq_getElem hk⟩
  have hg : (strs E)[Int.toNat (k : Int)]? = some (.str e) := strs_get he
  have hkl : Int.toNat (k : Int) < (strs E).length := by simp [hk]
  have hlt : ¬ decide ((k : Int) < ((strs E).length : Int)) = false := by simp [hk]
  have hround : E.length - (k + 1) < E.length - k := by omega
  have hbl : (bools ((E.take k).map (rMinP l s))).length = k := by simp; omega
  have hap : ∀ v, rMinP l s e = v → bools ((E.take (k + 1)).map (rMinP l s)) = bools ((E.take k).map (rMinP l s)) ++ [I.bool v] := by
    rintro v rfl
    rw [List.take_add_one, he]
    simp
  by_cases c1 : AnyH l e
  case neg =>
    have g1 : ¬ decide (AnyH l e) = true := by simp [c1]
    have hap := hap false (by simp [rMinP, c1])
    repeat' ((conv => whnf); first
      | (refine And.intro (fun hb => ?_) (fun hb => ?_) <;> first | (exact absurd hb (by first | assumption | decide)) | (rw [hb]) | skip)
      | (refine Exists.intro ?_ ?_; focus (and_intros <;> first | omega | exact rfl | assumption | (intro _ hh; cases hh; done) | exact all_size (by rfl) | (simp; done) | decide))
      | (intro hfact)
      | ((with_reducible apply Drawn.by0); (focus kernel_rfl); intro hfact)
      | ((try dsimp only); rw [hg])
      | (refine CallIs.mk ⟨_, _, spec_any _ _, ?_⟩)
      | (refine Exists.intro ?_ ?_; focus (and_intros <;> first | (simp only [hbl, List.length_set, List.length_replicate, maxLen]; omega) | exact all_size (by rfl) | decide)))
    all_goals (try (conv => whnf))
    refine Round.by (k + 1) ?_ hk hround
    rw [wrap_succ hk hm, hap]
    show norm _ _ = upd _ _
    kernel_rfl
  have g1 : ¬ decide (AnyH l e) = false := by simp [c1]
  by_cases c2 : SpR s
  case neg =>
    have g2 : ¬ decide (SpR s) = true := by simp [c2]
    have hap := hap true (by simp [rMinP, c1, c2])
    repeat' ((conv => whnf); first
      | (refine And.intro (fun hb => ?_) (fun hb => ?_) <;> first | (exact absurd hb (by first | assumption | decide)) | (rw [hb]) | skip)
      | (refine Exists.intro ?_ ?_; focus (and_intros <;> first | omega | exact rfl | assumption | (intro _ hh; cases hh; done) | exact all_size (by rfl) | (simp; done) | decide))
      | (intro hfact)
      | ((with_reducible apply Drawn.by0); (focus kernel_rfl); intro hfact)
      | ((try dsimp only); rw [hg])
      | (refine CallIs.mk ⟨_, _, spec_any _ _, ?_⟩)
      | (refine CallIs.mk ⟨_, _, spec_srright _, ?_⟩)
      | (refine CallIs.mk ⟨_, _, spec_srhas _ _, ?_⟩)
      | (refine Exists.intro ?_ ?_; focus (and_intros <;> first | (simp only [hbl, List.length_set, List.length_replicate, maxLen]; omega) | exact all_size (by rfl) | decide)))
    all_goals (try (conv => whnf))
    refine Round.by (k + 1) ?_ hk hround
    rw [wrap_succ hk hm, hap]
    show norm _ _ = upd _ _
    kernel_rfl
  have g2 : ¬ decide (SpR s) = false := by simp [c2]
  have hap := hap (!decide (SpH s e)) (by simp [rMinP, c1, c2])
  repeat' ((conv => whnf); first
    | (refine And.intro (fun hb => ?_) (fun hb => ?_) <;> first | (exact absurd hb (by first | assumption | decide)) | (rw [hb]) | skip)
    | (refine Exists.intro ?_ ?_; focus (and_intros <;> first | omega | exact rfl | assumption | (intro _ hh; cases hh; done) | exact all_size (by rfl) | (simp; done) | decide))
    | (intro hfact)
    | ((with_reducible apply Drawn.by0); (focus kernel_rfl); intro hfact)
    | ((try dsimp only); rw [hg])
    | (refine CallIs.mk ⟨_, _, spec_any _ _, ?_⟩)
    | (refine CallIs.mk ⟨_, _, spec_srright _, ?_⟩)
    | (refine CallIs.mk ⟨_, _, spec_srhas _ _, ?_⟩)
    | (refine Exists.intro ?_ ?_; focus (and_intros <;> first | (simp only [hbl, List.length_set, List.length_replicate, maxLen]; omega) | exact all_size (by rfl) | decide)))
  all_goals (try (conv => whnf))
  refine Round.by (k + 1) ?_ hk hround
  rw [wrap_succ hk hm, hap]
  show norm _ _ = upd _ _
  kernel_rfl
theorem minus_length (l : List Sp) (s : Sp) : (minus l s).length ≤ 2 * l.length := by
  have hul := uni_length l
  unfold minus
  split
  · rw [List.length_flatMap]
    have : ∀ u : List Sp, (u.map fun x => (cutOut s x).length).sum ≤ 2 * u.length := by
      intro u
      induction u with
      | nil => simp
      | cons x r ih =>
        have h1 : (cutOut s x).length ≤ 2 := by
          have hA : (cutA s x).length ≤ 1 := by unfold cutA; split <;> simp
          have hB : (cutB s x).length ≤ 1 := by unfold cutB; split <;> simp
          unfold cutOut
          rw [List.length_append]
          omega
        simp only [List.map_cons, List.sum_cons, List.length_cons]
        omega
    have := this (uni l)
    omega
  · omega
end Go.Ab

