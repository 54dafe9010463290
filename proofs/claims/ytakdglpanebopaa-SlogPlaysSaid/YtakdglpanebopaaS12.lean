/- One text of the proof whose last text says what is proved. -/
import Derived.Test.YtakdglpanebopaaS11
import Derived.Test.YtakdglpanebopaaAb25
set_option linter.unusedVariables false
set_option linter.unusedSimpArgs false
namespace Go.Ab
open Go.Proofs Go.Shelf
theorem growT : Lays8.n4 Try.prog ⟨fun n => if n = 4 then 35 else n, fun n => if n = 25 then 36 else n, fun n => n⟩ where
  mixed := by kernel_rfl
  f4 := ⟨Try.f35.name, by kernel_rfl, by kernel_rfl⟩
  t0 := by kernel_rfl
  a0 := fun _ => by kernel_rfl
  z0 := fun _ => by kernel_rfl
  v0 := fun _ => by kernel_rfl
  t3 := by kernel_rfl
  a3 := fun _ => by kernel_rfl
  z3 := fun _ => by kernel_rfl
  v3 := fun _ => by kernel_rfl
  t4 := by kernel_rfl
  a4 := fun _ => by kernel_rfl
  z4 := fun _ => by kernel_rfl
  v4 := fun _ => by kernel_rfl
  t9 := by kernel_rfl
  a9 := fun _ => by kernel_rfl
  z9 := fun _ => by kernel_rfl
  v9 := fun _ => by kernel_rfl
  t20 := by kernel_rfl
  a20 := fun _ => by kernel_rfl
  z20 := fun _ => by kernel_rfl
  v20 := fun _ => by kernel_rfl
  t22 := by kernel_rfl
  a22 := fun _ => by kernel_rfl
  z22 := fun _ => by kernel_rfl
  v22 := fun _ => by kernel_rfl

theorem growOk : GrowOk := fun n hn =>
  grow_fn (P := Try.prog) (ρ := ⟨fun n => if n = 4 then 35 else n, fun n => if n = 25 then 36 else n, fun n => n⟩) growT (i := Try.t36) (z := Try.t36.zero.getD undef) (by kernel_rfl) (by kernel_rfl) (by kernel_rfl) (by decide) (by decide) n hn
end Go.Ab
namespace Go.Proofs.Ytakdglpanebopaa
theorem slogNewer_holds : Rows.SlogNewerSaid := Go.Ab.newer_proved Go.Ab.growOk
end Go.Proofs.Ytakdglpanebopaa
