/- One text of the proof whose last text says what is proved. -/
import Derived.Test.YtbpnhefkfamhaaaP0
import Derived.Test.YtbpnhefkfamhaaaQ1
set_option linter.unusedVariables false
set_option linter.unusedSimpArgs false
set_option maxRecDepth 100000
namespace Go.Ab
open Go.Proofs

theorem spec_sright (s : Sp) : Fn Try.prog F_span_Right [.v s.toI] (Is (.v (.bool (decide (SpR s)))) [.no]) := by
  refine of_span_Right ?_ (by simp)
  repeat' ((conv => whnf); first
    | (refine And.intro (fun hb => ?_) (fun hb => ?_) <;> first | (exact absurd hb (by first | assumption | decide)) | (rw [hb]) | skip)
    | (refine Exists.intro ?_ ?_; focus (and_intros <;> first | omega | exact rfl | assumption | (intro _ hh; cases hh; done) | exact all_size (by rfl) | (simp; done) | decide))
    | (intro hfact)
    | (refine Drawn.mk (by kernel_rfl) (fun hfact => ?_)))
  all_goals (try (conv => whnf))
  all_goals (refine Done.mk ⟨SV.bool_congr ?_, by kernel_rfl⟩ (by kernel_rfl))
  all_goals (simp [SpR, bless_eq] at *; grind)
theorem spec_srright (s : Sp) : Fn Try.prog F_exchequerref05_Right [.v s.toI] (Is (.v (.bool (decide (SpR s)))) [.no]) := by
  refine of_exchequerref05_Right ?_ (by simp)
  repeat' ((conv => whnf); first
    | (refine And.intro (fun hb => ?_) (fun hb => ?_) <;> first | (exact absurd hb (by first | assumption | decide)) | (rw [hb]) | skip)
    | (refine Exists.intro ?_ ?_; focus (and_intros <;> first | omega | exact rfl | assumption | (intro _ hh; cases hh; done) | exact all_size (by rfl) | (simp; done) | decide))
    | (intro hfact)
    | (refine Drawn.mk (by kernel_rfl) (fun hfact => ?_)))
  all_goals (try (conv => whnf))
  all_goals (refine Done.mk ⟨SV.bool_congr ?_, by kernel_rfl⟩ (by kernel_rfl))
  all_goals (simp [SpR, bless_eq] at *; grind)
theorem spec_shas (s : Sp) (k : Str) : Fn Try.prog F_span_Has [.v s.toI, .v (.str k)] (Is (.v (.bool (decide (SpH s k)))) [.no, .no]) := by
  refine of_span_Has ?_ (by simp)
  repeat' ((conv => whnf); first
    | (refine And.intro (fun hb => ?_) (fun hb => ?_) <;> first | (exact absurd hb (by first | assumption | decide)) | (rw [hb]) | skip)
    | (refine Exists.intro ?_ ?_; focus (and_intros <;> first | omega | exact rfl | assumption | (intro _ hh; cases hh; done) | exact all_size (by rfl) | (simp; done) | decide))
    | (intro hfact)
    | (refine Drawn.mk (by kernel_rfl) (fun hfact => ?_)))
  all_goals (try (conv => whnf))
  all_goals (refine Done.mk ⟨SV.bool_congr ?_, by kernel_rfl⟩ (by kernel_rfl))
  all_goals (simp [SpH, bless_eq] at *; grind)
theorem spec_srhas (s : Sp) (k : Str) : Fn Try.prog F_exchequerref05_Has [.v s.toI, .v (.str k)] (Is (.v (.bool (decide (SpH s k)))) [.no, .no]) := by
  refine of_exchequerref05_Has ?_ (by simp)
  repeat' ((conv => whnf); first
    | (refine And.intro (fun hb => ?_) (fun hb => ?_) <;> first | (exact absurd hb (by first | assumption | decide)) | (rw [hb]) | skip)
    | (refine Exists.intro ?_ ?_; focus (and_intros <;> first | omega | exact rfl | assumption | (intro _ hh; cases hh; done) | exact all_size (by rfl) | (simp; done) | decide))
    | (intro hfact)
    | (refine Drawn.mk (by kernel_rfl) (fun hfact => ?_)))
  all_goals (try (conv => whnf))
  all_goals (refine Done.mk ⟨SV.bool_congr ?_, by kernel_rfl⟩ (by kernel_rfl))
  all_goals (simp [SpH, bless_eq] at *; grind)
theorem spec_key (k : Str) (h : k.length ≤ 100000) : Fn Try.prog F_span_Key [.v (.str k)] (Is (.v (⟨k, k ++ [0]⟩ : Sp).toI) [.no]) := by
  refine of_span_Key ?_ (by simp)
  have h1 : k.length + [(0 : UInt8)].length ≤ maxLen := by simp [maxLen]; omega
  repeat' ((conv => whnf); first
    | (refine And.intro (fun hb => ?_) (fun hb => ?_) <;> first | (exact absurd hb (by first | assumption | decide)) | (rw [hb]) | skip)
    | (refine Exists.intro ?_ ?_; focus (and_intros <;> first | omega | exact rfl | assumption | (intro _ hh; cases hh; done) | exact all_size (by rfl) | (simp; done) | decide))
    | (intro hfact)
    | (refine Drawn.mk (by kernel_rfl) (fun hfact => ?_)))
  all_goals (try (conv => whnf))
  exact Done.mk ⟨rfl, by kernel_rfl⟩ (by kernel_rfl)
theorem spec_isnan (k : Str) : Fn Try.prog F_cmp_isNaN_string [.v (.str k)] (Is (.v (.bool false)) [.no]) := by
  refine of_cmp_isNaN_string ?_ (by simp)
  repeat' ((conv => whnf); first
    | (refine And.intro (fun hb => ?_) (fun hb => ?_) <;> first | (exact absurd hb (by first | assumption | decide)) | (rw [hb]) | skip)
    | (refine Exists.intro ?_ ?_; focus (and_intros <;> first | omega | exact rfl | assumption | (intro _ hh; cases hh; done) | exact all_size (by rfl) | (simp; done) | decide))
    | (intro hfact)
    | (refine Drawn.mk (by kernel_rfl) (fun hfact => ?_)))
  all_goals (try (conv => whnf))
  exact Done.mk ⟨SV.bool_congr (by simp), by kernel_rfl⟩ (by kernel_rfl)
def cmpS (a b : Str) : Int := if a < b then -1 else if b < a then 1 else 0
theorem spec_compare (a b : Str) : Fn Try.prog F_cmp_Compare_string [.v (.str a), .v (.str b)] (Is (.v (.int .i64 (cmpS a b))) [.no, .no]) := by
  refine of_cmp_Compare_string ?_ (by simp)
  repeat' ((conv => whnf); first
    | (refine And.intro (fun hb => ?_) (fun hb => ?_) <;> first | (exact absurd hb (by first | assumption | decide)) | (rw [hb]) | skip)
    | (refine Exists.intro ?_ ?_; focus (and_intros <;> first | omega | exact rfl | assumption | (intro _ hh; cases hh; done) | exact all_size (by rfl) | (simp; done) | decide))
    | (intro hfact)
    | (refine Drawn.mk (by kernel_rfl) (fun hfact => ?_))
    | (refine CallWp.mk ⟨_, spec_isnan _, ?_⟩; rintro _ _ ⟨rfl, rfl⟩))
  all_goals (try (conv => whnf))
  all_goals (refine Done.mk ⟨congrArg (fun n => SV.v (.int .i64 n)) ?_, by kernel_rfl⟩ (by kernel_rfl))
  all_goals (simp [cmpS, bless_eq] at *; grind)
def endsI (a b : Str) : Int := if a = b then 0 else if a = [] then 1 else if b = [] then -1 else cmpS a b
theorem spec_ends (a b : Str) : Fn Try.prog F_span_ends [.v (.str a), .v (.str b)] (Is (.v (.int .i64 (endsI a b))) [.no, .no]) := by
  refine of_span_ends ?_ (by simp)
  repeat' ((conv => whnf); first
    | (refine And.intro (fun hb => ?_) (fun hb => ?_) <;> first | (exact absurd hb (by first | assumption | decide)) | (rw [hb]) | skip)
    | (refine Exists.intro ?_ ?_; focus (and_intros <;> first | omega | exact rfl | assumption | (intro _ hh; cases hh; done) | exact all_size (by rfl) | (simp; done) | decide))
    | (intro hfact)
    | (refine Drawn.mk (by kernel_rfl) (fun hfact => ?_))
    | (refine CallWp.mk ⟨_, spec_compare _ _, ?_⟩; rintro _ _ ⟨rfl, rfl⟩))
  all_goals (try (conv => whnf))
  all_goals (refine Done.mk ⟨congrArg (fun n => SV.v (.int .i64 n)) ?_, by kernel_rfl⟩ (by kernel_rfl))
  all_goals (simp [endsI] at *; grind)
def SpIn (a b : Sp) : Prop := SpR a ∧ SpR b ∧ b.f ≤ a.f ∧ endsI a.t b.t ≤ 0
instance (a b : Sp) : Decidable (SpIn a b) := by unfold SpIn; infer_instance
theorem spec_inside (a b : Sp) : Fn Try.prog F_span_Inside [.v a.toI, .v b.toI] (Is (.v (.bool (decide (SpIn a b)))) [.no, .no]) := by
  refine of_span_Inside ?_ (by simp)
  repeat' ((conv => whnf); first
    | (refine And.intro (fun hb => ?_) (fun hb => ?_) <;> first | (exact absurd hb (by first | assumption | decide)) | (rw [hb]) | skip)
    | (refine Exists.intro ?_ ?_; focus (and_intros <;> first | omega | exact rfl | assumption | (intro _ hh; cases hh; done) | exact all_size (by rfl) | (simp; done) | decide))
    | (intro hfact)
    | (refine Drawn.mk (by kernel_rfl) (fun hfact => ?_))
    | (refine CallWp.mk ⟨_, spec_sright _, ?_⟩; rintro _ _ ⟨rfl, rfl⟩)
    | (refine CallWp.mk ⟨_, spec_ends _ _, ?_⟩; rintro _ _ ⟨rfl, rfl⟩))
  all_goals (try (conv => whnf))
  all_goals (refine Done.mk ⟨SV.bool_congr ?_, by kernel_rfl⟩ (by kernel_rfl))
  all_goals (simp [SpIn, bless_eq] at *; grind)
end Go.Ab

