/- One text of the proof whose last text says what is proved. -/
import Derived.Test.YtbpnhefkfamhaaaAb20
import Derived.IntWalk
set_option linter.unusedVariables false
set_option linter.unusedSimpArgs false
namespace Go.Ab
theorem wrap_id {n : Int} (h : -9223372036854775808 ≤ n ∧ n ≤ 9223372036854775807) : IntKind.i64.wrap n = n := by rw [IntKind.wrap_i64]; omega
theorem wrap_succ {k n : Nat} (h : k < n) (hn : n ≤ maxLen) : IntKind.i64.wrap ((k : Int) + 1) = ((k + 1 : Nat) : Int) := by
  simp only [maxLen] at hn
  rw [wrap_id (by omega)]
  rfl
/-- A boolean result. -/
theorem SV.bool_congr {a b : Bool} (h : a = b) : SV.v (.bool a) = SV.v (.bool b) := congrArg (fun b => SV.v (.bool b)) h
theorem all_size {l : List I} {sz : Nat} (h : (l.all fun u => u.size == sz) = true) : ∀ u ∈ l, u.size = sz := by
  intro u hu
  simpa using List.all_eq_true.1 h u hu
end Go.Ab
