/- One text of the proof whose last text says what is proved. -/
import Derived.Test.YtbpnhefkfamhaaaP1
import Derived.Shelf.SlSortCmp.WholeK
set_option linter.unusedVariables false
set_option linter.unusedSimpArgs false
set_option maxRecDepth 100000
namespace Go.Ab
open Go.Proofs Go.Shelf
def sortRen : Ren := ⟨fun n => if n = 6 then 30 else if n = 14 then 40 else if n = 15 then 41 else if n = 20 then 44 else if n = 21 then 45 else if n = 22 then 46 else if n = 23 then 47 else if n = 24 then 48 else if n = 25 then 49 else if n = 26 then 50 else if n = 27 then 51 else if n = 28 then 52 else if n = 29 then 53 else if n = 46 then 54 else if n = 47 then 55 else if n = 48 then 56 else if n = 49 then 57 else if n = 50 then 58 else if n = 57 then 59 else n, fun n => if n = 0 then 0 else if n = 3 then 3 else if n = 4 then 4 else if n = 5 then 5 else if n = 9 then 9 else if n = 22 then 22 else if n = 24 then 29 else if n = 25 then 42 else if n = 39 then 52 else if n = 45 then 56 else if n = 46 then 57 else if n = 50 then 61 else if n = 53 then 64 else if n = 55 then 66 else if n = 66 then 67 else if n = 70 then 71 else if n = 76 then 73 else if n = 77 then 74 else n, fun n => n⟩
theorem sortT : SlLaysF0.n6 Try.prog sortRen where
  mixed := by kernel_rfl
  f6 := ⟨Try.f30.name, by kernel_rfl, by kernel_rfl⟩
  f14 := ⟨Try.f40.name, by kernel_rfl, by kernel_rfl⟩
  f15 := by kernel_rfl
  f20 := ⟨Try.f44.name, by kernel_rfl, by kernel_rfl⟩
  f21 := ⟨Try.f45.name, by kernel_rfl, by kernel_rfl⟩
  f22 := ⟨Try.f46.name, by kernel_rfl, by kernel_rfl⟩
  f23 := ⟨Try.f47.name, by kernel_rfl, by kernel_rfl⟩
  f24 := ⟨Try.f48.name, by kernel_rfl, by kernel_rfl⟩
  f25 := ⟨Try.f49.name, by kernel_rfl, by kernel_rfl⟩
  f26 := ⟨Try.f50.name, by kernel_rfl, by kernel_rfl⟩
  f27 := ⟨Try.f51.name, by kernel_rfl, by kernel_rfl⟩
  f28 := by kernel_rfl
  f29 := by kernel_rfl
  f46 := ⟨Try.f54.name, by kernel_rfl, by kernel_rfl⟩
  f47 := by kernel_rfl
  f48 := by kernel_rfl
  f49 := ⟨Try.f57.name, by kernel_rfl, by kernel_rfl⟩
  f50 := ⟨Try.f58.name, by kernel_rfl, by kernel_rfl⟩
  f57 := ⟨Try.f59.name, by kernel_rfl, by kernel_rfl⟩
  t0 := by kernel_rfl
  a0 := fun _ => by kernel_rfl
  z0 := fun _ => by kernel_rfl
  v0 := fun _ => by kernel_rfl
  t3 := by kernel_rfl
  a3 := fun _ => by kernel_rfl
  z3 := fun _ => by kernel_rfl
  v3 := fun _ => by kernel_rfl
  t4 := by kernel_rfl
  a4 := fun _ => by kernel_rfl
  z4 := fun _ => by kernel_rfl
  v4 := fun _ => by kernel_rfl
  t5 := by kernel_rfl
  a5 := fun _ => by kernel_rfl
  z5 := fun _ => by kernel_rfl
  v5 := fun _ => by kernel_rfl
  t9 := by kernel_rfl
  a9 := fun _ => by kernel_rfl
  z9 := fun _ => by kernel_rfl
  v9 := fun _ => by kernel_rfl
  t22 := by kernel_rfl
  a22 := fun _ => by kernel_rfl
  z22 := fun _ => by kernel_rfl
  v22 := fun _ => by kernel_rfl
  t25 := by kernel_rfl
  a25 := fun _ => by kernel_rfl
  z25 := fun _ => by kernel_rfl
  v25 := fun _ => by kernel_rfl
  t39 := by kernel_rfl
  a39 := fun _ => by kernel_rfl
  z39 := fun _ => by kernel_rfl
  v39 := fun _ => by kernel_rfl
  t45 := by kernel_rfl
  a45 := fun _ => by kernel_rfl
  z45 := fun _ => by kernel_rfl
  v45 := fun _ => by kernel_rfl
  t46 := by kernel_rfl
  a46 := fun _ => by kernel_rfl
  z46 := fun _ => by kernel_rfl
  v46 := fun _ => by kernel_rfl
  t50 := by kernel_rfl
  a50 := fun _ => by kernel_rfl
  z50 := fun _ => by kernel_rfl
  v50 := fun _ => by kernel_rfl
  t53 := by kernel_rfl
  a53 := fun _ => by kernel_rfl
  z53 := fun _ => by kernel_rfl
  v53 := fun _ => by kernel_rfl
  t55 := by kernel_rfl
  a55 := fun _ => by kernel_rfl
  z55 := fun _ => by kernel_rfl
  v55 := fun _ => by kernel_rfl
  t66 := by kernel_rfl
  a66 := fun _ => by kernel_rfl
  z66 := fun _ => by kernel_rfl
  v66 := fun _ => by kernel_rfl
  t70 := by kernel_rfl
  a70 := fun _ => by kernel_rfl
  z70 := fun _ => by kernel_rfl
  v70 := fun _ => by kernel_rfl
  t76 := by kernel_rfl
  a76 := fun _ => by kernel_rfl
  z76 := fun _ => by kernel_rfl
  v76 := fun _ => by kernel_rfl
  t77 := by kernel_rfl
  a77 := fun _ => by kernel_rfl
  z77 := fun _ => by kernel_rfl
  v77 := fun _ => by kernel_rfl
end Go.Ab
