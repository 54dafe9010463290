/- One text of the proof whose last text says what is proved. -/
import Derived.Test.YtoombangidlpjaaA0
import Derived.Test.YtoombangidlpjaaAb21c
set_option linter.unusedVariables false
set_option linter.unusedSimpArgs false
set_option maxRecDepth 100000
namespace Go.Ab
open Go.Proofs

theorem spec_sright (s : Sp) : Fn Try.prog F_span_Right [.v s.toI] (Is (.v (.bool (decide (SpR s)))) [.no]) := by
  refine of_span_Right ?_ (by simp)
  repeat' ((conv => whnf); first
    | (refine And.intro (fun hb => ?_) (fun hb => ?_) <;> first | (exact absurd hb (by first | assumption | decide)) | (rw [hb]) | skip)
    | (refine Exists.intro ?_ ?_; focus (and_intros <;> first | omega | exact rfl | assumption | (intro _ hh; cases hh; done) | exact all_size (by rfl) | (simp; done) | decide))
    | (intro hfact)
    | ((with_reducible apply Drawn.by0); (focus kernel_rfl); intro hfact))
  all_goals (try (conv => whnf))
  all_goals (refine Done.mk ⟨SV.bool_congr ?_, by kernel_rfl⟩ (by kernel_rfl))
  all_goals (simp [SpR, bless_eq] at *; grind)
theorem spec_srright (s : Sp) : Fn Try.prog F_exchequerref05_Right [.v s.toI] (Is (.v (.bool (decide (SpR s)))) [.no]) := by
  refine of_exchequerref05_Right ?_ (by simp)
  repeat' ((conv => whnf); first
    | (refine And.intro (fun hb => ?_) (fun hb => ?_) <;> first | (exact absurd hb (by first | assumption | decide)) | (rw [hb]) | skip)
    | (refine Exists.intro ?_ ?_; focus (and_intros <;> first | omega | exact rfl | assumption | (intro _ hh; cases hh; done) | exact all_size (by rfl) | (simp; done) | decide))
    | (intro hfact)
    | ((with_reducible apply Drawn.by0); (focus kernel_rfl); intro hfact))
  all_goals (try (conv => whnf))
  all_goals (refine Done.mk ⟨SV.bool_congr ?_, by kernel_rfl⟩ (by kernel_rfl))
  all_goals (simp [SpR, bless_eq] at *; grind)
theorem spec_srhas (s : Sp) (k : Str) : Fn Try.prog F_exchequerref05_Has [.v s.toI, .v (.str k)] (Is (.v (.bool (decide (SpH s k)))) [.no, .no]) := by
  refine of_exchequerref05_Has ?_ (by simp)
  repeat' ((conv => whnf); first
    | (refine And.intro (fun hb => ?_) (fun hb => ?_) <;> first | (exact absurd hb (by first | assumption | decide)) | (rw [hb]) | skip)
    | (refine Exists.intro ?_ ?_; focus (and_intros <;> first | omega | exact rfl | assumption | (intro _ hh; cases hh; done) | exact all_size (by rfl) | (simp; done) | decide))
    | (intro hfact)
    | ((with_reducible apply Drawn.by0); (focus kernel_rfl); intro hfact))
  all_goals (try (conv => whnf))
  all_goals (refine Done.mk ⟨SV.bool_congr ?_, by kernel_rfl⟩ (by kernel_rfl))
  all_goals (simp [SpH, bless_eq] at *; grind)
theorem spec_isnan (k : Str) : Fn Try.prog F_cmp_isNaN_string [.v (.str k)] (Is (.v (.bool false)) [.no]) := by
  refine of_cmp_isNaN_string ?_ (by simp)
  repeat' ((conv => whnf); first
    | (refine And.intro (fun hb => ?_) (fun hb => ?_) <;> first | (exact absurd hb (by first | assumption | decide)) | (rw [hb]) | skip)
    | (refine Exists.intro ?_ ?_; focus (and_intros <;> first | omega | exact rfl | assumption | (intro _ hh; cases hh; done) | exact all_size (by rfl) | (simp; done) | decide))
    | (intro hfact)
    | ((with_reducible apply Drawn.by0); (focus kernel_rfl); intro hfact))
  all_goals (try (conv => whnf))
  exact Done.mk ⟨SV.bool_congr (by simp), by kernel_rfl⟩ (by kernel_rfl)
def cmpS (a b : Str) : Int := if a < b then -1 else if b < a then 1 else 0
theorem spec_compare (a b : Str) : Fn Try.prog F_cmp_Compare_string [.v (.str a), .v (.str b)] (Is (.v (.int .i64 (cmpS a b))) [.no, .no]) := by
  refine of_cmp_Compare_string ?_ (by simp)
  repeat' ((conv => whnf); first
    | (refine And.intro (fun hb => ?_) (fun hb => ?_) <;> first | (exact absurd hb (by first | assumption | decide)) | (rw [hb]) | skip)
    | (refine Exists.intro ?_ ?_; focus (and_intros <;> first | omega | exact rfl | assumption | (intro _ hh; cases hh; done) | exact all_size (by rfl) | (simp; done) | decide))
    | (intro hfact)
    | ((with_reducible apply Drawn.by0); (focus kernel_rfl); intro hfact)
    | (refine CallWp.mk ⟨_, spec_isnan _, ?_⟩; rintro _ _ ⟨rfl, rfl⟩))
  all_goals (try (conv => whnf))
  all_goals (refine Done.mk ⟨congrArg (fun n => SV.v (.int .i64 n)) ?_, by kernel_rfl⟩ (by kernel_rfl))
  all_goals (simp [cmpS, bless_eq] at *; grind)
def endsI (a b : Str) : Int := if a = b then 0 else if a = [] then 1 else if b = [] then -1 else cmpS a b
theorem spec_ends (a b : Str) : Fn Try.prog F_span_ends [.v (.str a), .v (.str b)] (Is (.v (.int .i64 (endsI a b))) [.no, .no]) := by
  refine of_span_ends ?_ (by simp)
  repeat' ((conv => whnf); first
    | (refine And.intro (fun hb => ?_) (fun hb => ?_) <;> first | (exact absurd hb (by first | assumption | decide)) | (rw [hb]) | skip)
    | (refine Exists.intro ?_ ?_; focus (and_intros <;> first | omega | exact rfl | assumption | (intro _ hh; cases hh; done) | exact all_size (by rfl) | (simp; done) | decide))
    | (intro hfact)
    | ((with_reducible apply Drawn.by0); (focus kernel_rfl); intro hfact)
    | (refine CallWp.mk ⟨_, spec_compare _ _, ?_⟩; rintro _ _ ⟨rfl, rfl⟩))
  all_goals (try (conv => whnf))
  all_goals (refine Done.mk ⟨congrArg (fun n => SV.v (.int .i64 n)) ?_, by kernel_rfl⟩ (by kernel_rfl))
  all_goals (simp [endsI] at *; grind)
def SpIn (a b : Sp) : Prop := SpR a ∧ SpR b ∧ b.f ≤ a.f ∧ endsI a.t b.t ≤ 0
instance (a b : Sp) : Decidable (SpIn a b) := by unfold SpIn; infer_instance
theorem spec_inside (a b : Sp) : Fn Try.prog F_span_Inside [.v a.toI, .v b.toI] (Is (.v (.bool (decide (SpIn a b)))) [.no, .no]) := by
  refine of_span_Inside ?_ (by simp)
  repeat' ((conv => whnf); first
    | (refine And.intro (fun hb => ?_) (fun hb => ?_) <;> first | (exact absurd hb (by first | assumption | decide)) | (rw [hb]) | skip)
    | (refine Exists.intro ?_ ?_; focus (and_intros <;> first | omega | exact rfl | assumption | (intro _ hh; cases hh; done) | exact all_size (by rfl) | (simp; done) | decide))
    | (intro hfact)
    | ((with_reducible apply Drawn.by0); (focus kernel_rfl); intro hfact)
    | (refine CallWp.mk ⟨_, spec_sright _, ?_⟩; rintro _ _ ⟨rfl, rfl⟩)
    | (refine CallWp.mk ⟨_, spec_ends _ _, ?_⟩; rintro _ _ ⟨rfl, rfl⟩))
  all_goals (try (conv => whnf))
  all_goals (refine Done.mk ⟨SV.bool_congr ?_, by kernel_rfl⟩ (by kernel_rfl))
  all_goals (simp [SpIn, bless_eq] at *; grind)
end Go.Ab


set_option maxRecDepth 100000
set_option maxHeartbeats 1000000
namespace Go.Ab
open Go.Proofs

abbrev sps (l : List Sp) : List I := l.map Sp.toI
theorem sps_size (l : List Sp) : ∀ u ∈ sps l, u.size = 2 := by
  intro u hu
  obtain ⟨e, _, rfl⟩ := List.mem_map.1 hu
  rfl
theorem sps_get {l : List Sp} {k : Nat} {e : Sp} (h : l[k]? = some e) : (sps l)[k]? = some e.toI := by simp [h]
theorem spec_u1 (s : Sp) : Fn Try.prog F_span_Union_1 [.v s.toI] (Is (.v (.bool (!decide (SpR s)))) [.no]) := by
  refine of_span_Union_1 ?_ (by simp)
  repeat' ((conv => whnf); first
    | (refine And.intro (fun hb => ?_) (fun hb => ?_) <;> first | (exact absurd hb (by first | assumption | decide)) | (rw [hb]) | skip)
    | (refine Exists.intro ?_ ?_; focus (and_intros <;> first | omega | exact rfl | assumption | (intro _ hh; cases hh; done) | exact all_size (by rfl) | (simp; done) | decide))
    | (intro hfact)
    | ((with_reducible apply Drawn.by0); (focus kernel_rfl); intro hfact)
    | (refine CallWp.mk ⟨_, spec_sright _, ?_⟩; rintro _ _ ⟨rfl, rfl⟩))
  all_goals (try (conv => whnf))
  exact Done.mk ⟨rfl, by kernel_rfl⟩ (by kernel_rfl)
theorem spec_u2 (a b : Sp) : Fn Try.prog F_span_Union_2 [.v a.toI, .v b.toI] (Is (.v (.int .i64 (cmpS a.f b.f))) [.no, .no]) := by
  refine of_span_Union_2 ?_ (by simp)
  repeat' ((conv => whnf); first
    | (refine And.intro (fun hb => ?_) (fun hb => ?_) <;> first | (exact absurd hb (by first | assumption | decide)) | (rw [hb]) | skip)
    | (refine Exists.intro ?_ ?_; focus (and_intros <;> first | omega | exact rfl | assumption | (intro _ hh; cases hh; done) | exact all_size (by rfl) | (simp; done) | decide))
    | (intro hfact)
    | ((with_reducible apply Drawn.by0); (focus kernel_rfl); intro hfact)
    | (refine CallWp.mk ⟨_, spec_compare _ _, ?_⟩; rintro _ _ ⟨rfl, rfl⟩))
  all_goals (try (conv => whnf))
  exact Done.mk ⟨rfl, by kernel_rfl⟩ (by kernel_rfl)
theorem spec_sclone (l : List Sp) (hl : l.length ≤ 1000000) : Fn Try.prog F_slices_Clone_L_api_Span_api_Span [.v (.list (sps l))] (Is (.vec 41 2 (sps l)) [.no]) := by
  refine ofv_slices_Clone_L_api_Span_api_Span ?_ (by simp)
  have h1 : (([] : List I).length + (sps l).length) * 32 ≤ 140737488355328 := by simp; omega
  have h2 : ([] : List I).length + (sps l).length ≤ maxLen := by simp [maxLen]; omega
  have h3 := sps_size l
  repeat' ((conv => whnf); first
    | (refine And.intro (fun hb => ?_) (fun hb => ?_) <;> first | (exact absurd hb (by first | assumption | decide)) | (rw [hb]) | skip)
    | (refine Exists.intro ?_ ?_; focus (and_intros <;> first | omega | exact rfl | assumption | (intro _ hh; cases hh; done) | exact all_size (by rfl) | (simp; done) | decide))
    | (intro hfact)
    | ((with_reducible apply Drawn.by0); (focus kernel_rfl); intro hfact))
  all_goals (try (conv => whnf))
  · refine Done.mk ⟨congrArg (fun l => SV.vec 41 2 l) ?_, by kernel_rfl⟩ (by kernel_rfl)
    simp_all
  · exact Done.mk ⟨congrArg (fun l => SV.vec 41 2 l) (List.nil_append _), by kernel_rfl⟩ (by kernel_rfl)

theorem hit_at {e sz : Nat} {l : List I} {n : Nat} {u : I} (h : l[n]? = some u) : (SV.vec e sz l).hit 0 [n] = some (n * sz + 0, .item u) := by
  have : u.sub [] = some (0, u) := by cases u <;> rfl
  simp [SV.hit, hitV, h, hitI, this]
def badB (s : Sp) : Bool := !decide (SpR s)
def idxF (p : Sp → Bool) : Nat → List Sp → Int
  | _, [] => -1
  | k, s :: r => if p s = true then k else idxF p (k + 1) r
theorem spec_index (l : List Sp) (hl : l.length ≤ 1000000) : Fn Try.prog F_slices_IndexFunc_L_api_Span_api_Span [.v (.list (sps l)), .v (.fn 52)] (Is (.v (.int .i64 (idxF badB 0 l))) [.no, .no]) := by
  refine of_slices_IndexFunc_L_api_Span_api_Span ?_ (by simp)
  have hmax : l.length ≤ maxLen := by simp only [maxLen]; omega
  repeat' ((conv => whnf); first
    | (refine And.intro (fun hb => ?_) (fun hb => ?_) <;> first | (exact absurd hb (by first | assumption | decide)) | (rw [hb]) | skip)
    | (refine Exists.intro ?_ ?_; focus (and_intros <;> first | omega | exact rfl | assumption | (intro _ hh; cases hh; done) | exact all_size (by rfl) | (simp; done) | decide))
    | (intro hfact)
    | ((with_reducible apply Drawn.by0); (focus kernel_rfl); intro hfact))
  all_goals (try (conv => whnf))
  refine LoopWq.by (X := Nat) (fun x => [(8, .v (.int .i64 x))]) (fun x => x ≤ l.length ∧ idxF badB x (l.drop x) = idxF badB 0 l) (fun x => l.length - x)
    0 (by kernel_rfl) ⟨Nat.zero_le _, rfl⟩ ?_
  rintro k ⟨h1, h2⟩
  by_cases hk : k < l.length
  · obtain ⟨e, he⟩ : ∃ e, l[k]? = some e := ⟨_, List.getElem?_eq_getElem hk⟩
    have hg : (sps l)[Int.toNat (k : Int)]? = some e.toI := sps_get he
    have hlt : ¬ decide ((k : Int) < ((sps l).length : Int)) = false := by simp [hk]
    have hkl : Int.toNat (k : Int) < (sps l).length := by simp [hk]
    have hke : l[k] = e := by rw [List.getElem?_eq_getElem hk] at he; simpa using he
    rw [List.drop_eq_getElem_cons hk, hke] at h2
    repeat' ((conv => whnf); first
      | (refine And.intro (fun hb => ?_) (fun hb => ?_) <;> first | (exact absurd hb (by first | assumption | decide)) | (rw [hb]) | skip)
      | (refine Exists.intro ?_ ?_; focus (and_intros <;> first | omega | exact rfl | assumption | (intro _ hh; cases hh; done) | exact all_size (by rfl) | (simp; done) | decide))
      | (intro hfact)
      | ((with_reducible apply Drawn.by0); (focus kernel_rfl); intro hfact)
      | ((try dsimp only); rw [hg])
      | (refine CallWp.mk ⟨_, spec_u1 _, ?_⟩; rintro _ _ ⟨rfl, rfl⟩))
    all_goals (try (conv => whnf))
    · refine Done.mk ⟨congrArg (fun n => SV.v (.int .i64 n)) ?_, by kernel_rfl⟩ (by kernel_rfl)
      rw [← h2, idxF, if_pos (by assumption)]
    · refine Round.by (k + 1) ?_ ?_ ?_
      · rw [wrap_succ hk hmax]
        show norm _ _ = upd _ _
        kernel_rfl
      · refine ⟨hk, ?_⟩
        rw [← h2, idxF, if_neg (by have := hb; simp only [badB]; simp at this ⊢; exact this)]
      · show l.length - (k + 1) < l.length - k
        omega
  · have hlt : ¬ decide ((k : Int) < ((sps l).length : Int)) = true := by simp; omega
    repeat' ((conv => whnf); first
      | (refine And.intro (fun hb => ?_) (fun hb => ?_) <;> first | (exact absurd hb (by first | assumption | decide)) | (rw [hb]) | skip)
      | (refine Exists.intro ?_ ?_; focus (and_intros <;> first | omega | exact rfl | assumption | (intro _ hh; cases hh; done) | exact all_size (by rfl) | (simp; done) | decide))
      | (intro hfact)
      | ((with_reducible apply Drawn.by0); (focus kernel_rfl); intro hfact))
    all_goals (try (conv => whnf))
    refine Done.mk ⟨congrArg (fun n => SV.v (.int .i64 n)) ?_, by kernel_rfl⟩ (by kernel_rfl)
    rw [← h2, List.drop_eq_nil_of_le (by omega)]
    rfl
end Go.Ab

