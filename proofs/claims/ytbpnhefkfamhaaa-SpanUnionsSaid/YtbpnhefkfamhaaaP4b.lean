/- One text of the proof whose last text says what is proved. -/
import Derived.Test.YtbpnhefkfamhaaaP4a
import Derived.Laws.Cover1
set_option linter.unusedVariables false
set_option linter.unusedSimpArgs false
set_option maxRecDepth 100000
namespace Go.Ab
open Go.Proofs Go.Shelf Go.RowKit Go.Lib Go.Sort

set_option maxHeartbeats 1000000 in
theorem kit_isnan (x : ByteArray) (w : World) : Calls Try.prog 42 #[.string x] w fun e w' => e = .returned (.bool false) ∧ w' = w := by
  go_enter Try.func42, Try.ntmps42
  go_wp2
  go_ret
  exact ⟨by simp, rfl⟩
set_option maxHeartbeats 1000000 in
theorem kit_compare (x y : Str) (w : World) : Calls Try.prog 32 #[.string ⟨⟨x⟩⟩, .string ⟨⟨y⟩⟩] w fun e w' => e = .returned (.int .i64 (cmpS x y)) ∧ w' = w := by
  go_enter Try.func32, Try.ntmps32
  go_wp2_with (go_at_call 42; refine (kit_isnan _ _).mono ?_; rintro e w' ⟨rfl, hw⟩; rw [hw])
  all_goals (go_ret; refine ⟨?_, rfl⟩)
  all_goals (refine congrArg (fun n => Ending.returned (Value.int .i64 n)) ?_)
  all_goals (simp [cmpS, bless_eq] at *)
  all_goals grind
def encSp (s : Sp) : List Value := [.string ⟨⟨s.f⟩⟩, .string ⟨⟨s.t⟩⟩]
set_option maxHeartbeats 1000000 in
theorem kit_u2 (x y : Sp) (w : World) : Calls Try.prog 31 #[.agg (encSp x).toArray, .agg (encSp y).toArray] w fun e w' => e = .returned (.int .i64 (cmpS x.f y.f)) ∧ ∃ q os', w' = grow (w.drewN q) os' := by
  have hcon := fun W' => kit_compare x.f y.f W'
  generalize cmpS x.f y.f = r at hcon ⊢
  unfold encSp
  go_enter Try.func31, Try.ntmps31
  go_wp2_with (go_at_call 32; refine (hcon _).mono ?_; rintro e w' ⟨rfl, rfl⟩)
  go_ret
  exact ⟨rfl, 0, _, by rw [alloc_eq_grow, alloc_eq_grow, grow_grow]; rfl⟩
instance : Inhabited Sp := ⟨⟨[], []⟩⟩
theorem kit_lays (blk off size : Nat) (w : World) : CmpLays Try.prog 31 #[] encSp 2 (fun x y => cmpS x.f y.f) blk off size w :=
  fun _ _ _ _ x y => kit_u2 x y _
theorem ltF (x y : Sp) : ltOf (fun x y : Sp => cmpS x.f y.f) x y = decide (x.f < y.f) := by
  unfold ltOf cmpS
  by_cases h : x.f < y.f
  · simp [h]
  · by_cases h2 : y.f < x.f <;> simp [h, h2]
theorem swoF : SWO (ltOf fun x y : Sp => cmpS x.f y.f) where
  irrefl x := by rw [ltF]; simp
  trans x y z h1 h2 := by rw [ltF] at *; simp at *; grind
  ntrans x y z h1 h2 := by rw [ltF] at *; simp at *; grind
end Go.Ab
