/- One text of the proof whose last text says what is proved. -/
import Derived.Test.YtbpnhefkfamhaaaP15
import Derived.Test.YtbpnhefkfamhaaaQ3
set_option linter.unusedVariables false
set_option linter.unusedSimpArgs false
set_option maxRecDepth 100000
set_option maxHeartbeats 1000000
namespace Go.Ab
open Go.Proofs

theorem spec_cov1 (u s : Sp) : Fn Try.prog F_span_Covers_1 [.v u.toI, .rp s.toI] (Is (.v (.bool (decide (SpIn s u)))) [.no, .no]) := by
  refine of_span_Covers_1 ?_ (by simp)
  repeat' ((conv => whnf); first
    | (refine And.intro (fun hb => ?_) (fun hb => ?_) <;> first | (exact absurd hb (by first | assumption | decide)) | (rw [hb]) | skip)
    | (refine Exists.intro ?_ ?_; focus (and_intros <;> first | omega | exact rfl | assumption | (intro _ hh; cases hh; done) | exact all_size (by rfl) | (simp; done) | decide))
    | (intro hfact)
    | (refine Drawn.mk (by kernel_rfl) (fun hfact => ?_))
    | (refine CallWp.mk ⟨_, spec_inside _ _, ?_⟩; rintro _ _ ⟨rfl, rfl⟩))
  all_goals (try (conv => whnf))
  exact Done.mk ⟨rfl, by kernel_rfl⟩ (by kernel_rfl)
def inB (s u : Sp) : Bool := decide (SpIn s u)
theorem idxF_any (p : Sp → Bool) : ∀ (k : Nat) (l : List Sp), decide (0 ≤ idxF p k l) = l.any p
  | k, [] => rfl
  | k, s :: r => by
    unfold idxF
    rw [List.any_cons]
    split
    · rename_i h; simp [h]
    · rename_i h; simp [h, idxF_any p (k + 1) r]
theorem spec_indexC (s : Sp) (l : List Sp) (hl : l.length ≤ 1000000) : Fn Try.prog F_slices_IndexFunc_L_api_Span_api_Span [.v (.list (sps l)), .v (.clo 38 [s.toI])] (Is (.v (.int .i64 (idxF (inB s) 0 l))) [.no, .no]) := by
  refine of_slices_IndexFunc_L_api_Span_api_Span ?_ (by simp)
  have hmax : l.length ≤ maxLen := by simp only [maxLen]; omega
  repeat' ((conv => whnf); first
    | (refine And.intro (fun hb => ?_) (fun hb => ?_) <;> first | (exact absurd hb (by first | assumption | decide)) | (rw [hb]) | skip)
    | (refine Exists.intro ?_ ?_; focus (and_intros <;> first | omega | exact rfl | assumption | (intro _ hh; cases hh; done) | exact all_size (by rfl) | (simp; done) | decide))
    | (intro hfact)
    | (refine Drawn.mk (by kernel_rfl) (fun hfact => ?_)))
  all_goals (try (conv => whnf))
  refine LoopWq.by (X := Nat) (fun x => [(8, .v (.int .i64 x))]) (fun x => x ≤ l.length ∧ idxF (inB s) x (l.drop x) = idxF (inB s) 0 l) (fun x => l.length - x)
    0 (by kernel_rfl) ⟨Nat.zero_le _, rfl⟩ ?_
  rintro k ⟨h1, h2⟩
  by_cases hk : k < l.length
  · obtain ⟨e, he⟩ : ∃ e, l[k]? = some e := ⟨_, List.getElem?_eq_getElem hk⟩
    have hg : (sps l)[Int.toNat (k : Int)]? = some e.toI := sps_get he
    have hlt : ¬ decide ((k : Int) < ((sps l).length : Int)) = false := by simp [hk]
    have hkl : Int.toNat (k : Int) < (sps l).length := by simp [hk]
    have hke : l[k] = e := by rw [List.getElem?_eq_getElem hk] at he; simpa using he
    rw [List.drop_eq_getElem_cons hk, hke] at h2
    repeat' ((conv => whnf); first
      | (refine And.intro (fun hb => ?_) (fun hb => ?_) <;> first | (exact absurd hb (by first | assumption | decide)) | (rw [hb]) | skip)
      | (refine Exists.intro ?_ ?_; focus (and_intros <;> first | omega | exact rfl | assumption | (intro _ hh; cases hh; done) | exact all_size (by rfl) | (simp; done) | decide))
      | (intro hfact)
      | (refine Drawn.mk (by kernel_rfl) (fun hfact => ?_))
      | ((try dsimp only); rw [hg])
      | (refine CallWp.mk ⟨_, spec_cov1 _ _, ?_⟩; rintro _ _ ⟨rfl, rfl⟩))
    all_goals (try (conv => whnf))
    · refine Done.mk ⟨congrArg (fun n => SV.v (.int .i64 n)) ?_, by kernel_rfl⟩ (by kernel_rfl)
      rw [← h2, idxF, if_pos (by assumption)]
    · refine Round.by (k + 1) ?_ ?_ ?_
      · rw [wrap_succ hk hmax]
        show norm _ _ = upd _ _
        kernel_rfl
      · refine ⟨hk, ?_⟩
        rw [← h2, idxF, if_neg (by have := hb; simp only [inB]; simp at this ⊢; exact this)]
      · show l.length - (k + 1) < l.length - k
        omega
  · have hlt : ¬ decide ((k : Int) < ((sps l).length : Int)) = true := by simp; omega
    repeat' ((conv => whnf); first
      | (refine And.intro (fun hb => ?_) (fun hb => ?_) <;> first | (exact absurd hb (by first | assumption | decide)) | (rw [hb]) | skip)
      | (refine Exists.intro ?_ ?_; focus (and_intros <;> first | omega | exact rfl | assumption | (intro _ hh; cases hh; done) | exact all_size (by rfl) | (simp; done) | decide))
      | (intro hfact)
      | (refine Drawn.mk (by kernel_rfl) (fun hfact => ?_)))
    all_goals (try (conv => whnf))
    refine Done.mk ⟨congrArg (fun n => SV.v (.int .i64 n)) ?_, by kernel_rfl⟩ (by kernel_rfl)
    rw [← h2, List.drop_eq_nil_of_le (by omega)]
    rfl
theorem spec_contC (s : Sp) (l : List Sp) (hl : l.length ≤ 1000000) : Fn Try.prog F_slices_ContainsFunc_L_api_Span_api_Span [.v (.list (sps l)), .v (.clo 38 [s.toI])] (Is (.v (.bool (l.any (inB s)))) [.no, .no]) := by
  refine of_slices_ContainsFunc_L_api_Span_api_Span ?_ (by simp)
  have hi := spec_indexC s l hl
  repeat' ((conv => whnf); first
    | (refine And.intro (fun hb => ?_) (fun hb => ?_) <;> first | (exact absurd hb (by first | assumption | decide)) | (rw [hb]) | skip)
    | (refine Exists.intro ?_ ?_; focus (and_intros <;> first | omega | exact rfl | assumption | (intro _ hh; cases hh; done) | exact all_size (by rfl) | (simp; done) | decide))
    | (intro hfact)
    | (refine Drawn.mk (by kernel_rfl) (fun hfact => ?_))
    | (refine CallWp.mk ⟨_, hi, ?_⟩; rintro _ _ ⟨rfl, rfl⟩))
  all_goals (try (conv => whnf))
  refine Done.mk ⟨SV.bool_congr ?_, by kernel_rfl⟩ (by kernel_rfl)
  rw [← idxF_any (inB s) 0 l]
theorem spec_covers (l : List Sp) (s : Sp) (hl : l.length ≤ 1000) : Fn Try.prog F_span_Covers [.v (.list (sps l)), .v s.toI] (Is (.v (.bool (decide (RCov l s)))) [.no, .no]) := by
  refine of_span_Covers ?_ (by simp)
  have hu := spec_union sortNil l hl
  have hul := uni_length l
  have hc := spec_contC s (uni l) (by omega)
  repeat' ((conv => whnf); first
    | (refine And.intro (fun hb => ?_) (fun hb => ?_) <;> first | (exact absurd hb (by first | assumption | decide)) | (rw [hb]) | skip)
    | (refine Exists.intro ?_ ?_; focus (and_intros <;> first | omega | exact rfl | assumption | (intro _ hh; cases hh; done) | exact all_size (by rfl) | (simp; done) | decide))
    | (intro hfact)
    | (refine Drawn.mk (by kernel_rfl) (fun hfact => ?_))
    | (refine CallWp.mk ⟨_, hu, ?_⟩; rintro _ _ ⟨rfl, rfl⟩)
    | (refine CallWp.mk ⟨_, hc, ?_⟩; rintro _ _ ⟨rfl, rfl⟩))
  all_goals (try (conv => whnf))
  refine Done.mk ⟨SV.bool_congr ?_, by kernel_rfl⟩ (by kernel_rfl)
  rw [Bool.eq_iff_iff, List.any_eq_true, decide_eq_true_eq, ← cov_iff]
  simp [inB]
theorem law_scovers (l : List Sp) (s : Sp) (hl0 : l.length * 32 ≤ 140737488351232) : Fn Try.prog F_exchequerlaw05_SpanCovers [.v (.list (sps l)), .v s.toI] (Is (.v (.bool true)) [.no, .no]) := by
  refine of_exchequerlaw05_SpanCovers ?_ (by simp)
  have haw := spec_awakeS sortNil
  have hgr := spec_greatS (s :: l) []
  have b1 : ([s.toI].length + (sps l).length) * 32 ≤ 140737488355328 := by rw [List.length_map]; show (1 + l.length) * 32 ≤ _; omega
  have b2 : [s.toI].length + (sps l).length ≤ maxLen := by rw [List.length_map]; show 1 + l.length ≤ 9223372036854775807; omega
  have b3 := sps_size l
  by_cases hg : (greatS 0 (s :: l) || greatT []) = true
  · rw [hg] at hgr
    repeat' ((conv => whnf); first
      | (refine And.intro (fun hb => ?_) (fun hb => ?_) <;> first | (exact absurd hb (by first | assumption | decide)) | (rw [hb]) | skip)
      | (refine Exists.intro ?_ ?_; focus (and_intros <;> first | omega | exact rfl | assumption | (intro _ hh; cases hh; done) | exact all_size (by rfl) | (simp; done) | decide))
      | (intro hfact)
      | (refine Drawn.mk (by kernel_rfl) (fun hfact => ?_))
      | (refine CallWp.mk ⟨_, haw, ?_⟩; rintro _ _ ⟨rfl, rfl⟩)
      | (refine CallIs.mk ⟨_, _, hgr, ?_⟩))
    all_goals (try (conv => whnf))
    exact Done.mk ⟨rfl, by kernel_rfl⟩ (by kernel_rfl)
  · have hg' : (greatS 0 (s :: l) || greatT []) = false := by simpa using hg
    rw [hg'] at hgr
    have hl := (greatS_no (Bool.or_eq_false_iff.1 hg').1).1
    rw [List.length_cons] at hl
    have hc := spec_covers l s (by omega)
    have hr := spec_srcovers l s (by omega)
    repeat' ((conv => whnf); first
      | (refine And.intro (fun hb => ?_) (fun hb => ?_) <;> first | (exact absurd hb (by first | assumption | decide)) | (rw [hb]) | skip)
      | (refine Exists.intro ?_ ?_; focus (and_intros <;> first | omega | exact rfl | assumption | (intro _ hh; cases hh; done) | exact all_size (by rfl) | (simp; done) | decide))
      | (intro hfact)
      | (refine Drawn.mk (by kernel_rfl) (fun hfact => ?_))
      | (refine CallWp.mk ⟨_, haw, ?_⟩; rintro _ _ ⟨rfl, rfl⟩)
      | (refine CallIs.mk ⟨_, _, hgr, ?_⟩)
      | (refine CallIs.mk ⟨_, _, hc, ?_⟩)
      | (refine CallIs.mk ⟨_, _, hr, ?_⟩))
    all_goals (try (conv => whnf))
    exact Done.mk ⟨SV.bool_congr (by simp), by kernel_rfl⟩ (by kernel_rfl)
end Go.Ab

