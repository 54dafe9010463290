/- One text of the proof whose last text says what is proved. -/
import Derived.Test.YtakdglpanebopaaS6
set_option linter.unusedVariables false
set_option linter.unusedSimpArgs false
set_option maxRecDepth 100000
namespace Go.Ab
open Go.Proofs

def tot (ls : List (List I)) : Nat := (ls.map List.length).sum
theorem tot_flatten (ls : List (List I)) : ls.flatten.length = tot ls := by simp [tot, List.length_flatten]
theorem tot_take_succ {ls : List (List I)} {k : Nat} {l : List I} (h : ls[k]? = some l) : tot (ls.take (k + 1)) = tot (ls.take k) + l.length := by
  rw [List.take_add_one, h]
  simp [tot]
theorem flatten_take_succ {ls : List (List I)} {k : Nat} {l : List I} (h : ls[k]? = some l) : (ls.take (k + 1)).flatten = (ls.take k).flatten ++ l := by
  rw [List.take_add_one, h]
  simp
theorem tot_take_le (ls : List (List I)) (k : Nat) : tot (ls.take k) ≤ tot ls := by
  have h : tot (ls.take k) + tot (ls.drop k) = tot ls := by
    simp only [tot]
    rw [← List.sum_append, ← List.map_append, List.take_append_drop]
  omega
def GrowOk : Prop := ∀ n : Nat, n ≤ 1000000 → Fn Try.prog F_slices_Grow_L_api_Entry_api_Entry [.vec 36 3 [], .v (.int .i64 n)] (Is (.vec 36 3 []) [.no, .no])
theorem spec_concat (hgrow : GrowOk) (ls : List (List I)) (hs : ∀ l ∈ ls, ∀ u ∈ l, u.size = 3) (hl : tot ls ≤ 1000000) :
    Fn Try.prog F_slices_Concat_L_api_Entry_api_Entry [.v (.list (ls.map I.list))] (Is (.vec 36 3 ls.flatten) [.no]) := by
  refine ofv_slices_Concat_L_api_Entry_api_Entry ?_ (by simp)
  repeat' ((conv => whnf); first
    | (refine And.intro (fun hb => ?_) (fun hb => ?_) <;> first | (exact absurd hb (by first | assumption | decide)) | (rw [hb]) | skip)
    | (refine Exists.intro ?_ ?_; focus (and_intros <;> first | omega | exact rfl | assumption | (intro _ hh; cases hh; done) | exact all_size (by rfl) | (simp; done) | decide))
    | (intro hfact)
    | (refine Drawn.mk (by kernel_rfl) (fun hfact => ?_)))
  all_goals (try (conv => whnf))
  have hmax : ls.length ≤ maxLen := by simpa using hfact
  refine LoopWq.by (X := Nat) (fun x => [(3, .v (.int .i64 (tot (ls.take x) : Nat))), (11, .v (.int .i64 x))]) (fun x => x ≤ ls.length) (fun x => ls.length - x) 0 (by kernel_rfl) (Nat.zero_le _) ?_
  intro k h1
  by_cases hk : k < ls.length
  · obtain ⟨l, he⟩ : ∃ l, ls[k]? = some l := ⟨ls[k], List.getElem?_eq_getElem hk⟩
    have hg : (ls.map I.list)[Int.toNat (k : Int)]? = some (.list l) := by simp [he]
    have hlt : ¬ decide ((k : Int) < ((ls.map I.list).length : Int)) = false := by simp [hk]
    have ht1 := tot_take_succ he
    have ht2 := tot_take_le ls (k + 1)
    have hw : IntKind.i64.wrap ((tot (ls.take k) : Int) + (l.length : Int)) = (tot (ls.take (k + 1)) : Int) := (wrap_id (by omega)).trans (by omega)
    have hneg0 : ¬ decide (IntKind.i64.wrap ((tot (ls.take k) : Int) + (l.length : Int)) < 0) = true := by
      rw [hw, decide_eq_true_eq]
      omega
    have hneg : ¬ decide ((tot (ls.take (k + 1)) : Int) < 0) = true := by
      rw [decide_eq_true_eq]
      omega
    repeat' ((conv => whnf); first
      | (refine And.intro (fun hb => ?_) (fun hb => ?_) <;> first | (exact absurd hb (by first | assumption | decide)) | (rw [hb]) | skip)
      | (refine Exists.intro ?_ ?_; focus (and_intros <;> first | omega | exact rfl | assumption | (intro _ hh; cases hh; done) | exact all_size (by rfl) | (simp; done) | decide))
      | (intro hfact)
      | (refine Drawn.mk (by kernel_rfl) (fun hfact => ?_))
      | ((try dsimp only); rw [hg])
      | ((try dsimp only); rw [hw]))
    all_goals (try (conv => whnf))
    refine Round.by (k + 1) ?_ hk ?_
    · rw [wrap_succ hk hmax]
      show norm _ _ = upd _ _
      kernel_rfl
    · show ls.length - (k + 1) < ls.length - k
      omega
  · have hlt : ¬ decide ((k : Int) < ((ls.map I.list).length : Int)) = true := by simp; omega
    have hall : ls.take k = ls := List.take_of_length_le (by omega)
    have hgr := hgrow (tot (ls.take k)) (by rw [hall]; exact hl)
    repeat' ((conv => whnf); first
      | (refine And.intro (fun hb => ?_) (fun hb => ?_) <;> first | (exact absurd hb (by first | assumption | decide)) | (rw [hb]) | skip)
      | (refine Exists.intro ?_ ?_; focus (and_intros <;> first | omega | exact rfl | assumption | (intro _ hh; cases hh; done) | exact all_size (by rfl) | (simp; done) | decide))
      | (intro hfact)
      | (refine Drawn.mk (by kernel_rfl) (fun hfact => ?_))
      | (refine CallWp.mk ⟨_, hgr, ?_⟩; rintro _ _ ⟨rfl, rfl⟩))
    all_goals (try (conv => whnf))
    refine LoopWq.by (X := Nat) (fun x => [(6, .vec 36 3 (ls.take x).flatten), (27, .v (.int .i64 x))]) (fun x => x ≤ ls.length) (fun x => ls.length - x) 0 (by kernel_rfl) (Nat.zero_le _) ?_
    intro k h1
    by_cases hk : k < ls.length
    · obtain ⟨l, he⟩ : ∃ l, ls[k]? = some l := ⟨ls[k], List.getElem?_eq_getElem hk⟩
      have hg : (ls.map I.list)[Int.toNat (k : Int)]? = some (.list l) := by simp [he]
      have hlt : ¬ decide ((k : Int) < ((ls.map I.list).length : Int)) = false := by simp [hk]
      have ht1 := tot_take_succ he
      have ht2 := tot_take_le ls (k + 1)
      have ht3 := tot_flatten (ls.take k)
      have hb1 : ((ls.take k).flatten.length + l.length) * 32 ≤ 140737488355328 := by omega
      have hb2 : (ls.take k).flatten.length + l.length ≤ maxLen := by simp only [maxLen]; omega
      have hb3 : ∀ u ∈ l, u.size = 3 := hs l (List.mem_of_getElem? he)
      repeat' ((conv => whnf); first
        | (refine And.intro (fun hb => ?_) (fun hb => ?_) <;> first | (exact absurd hb (by first | assumption | decide)) | (rw [hb]) | skip)
        | (refine Exists.intro ?_ ?_; focus (and_intros <;> first | omega | exact rfl | assumption | (intro _ hh; cases hh; done) | exact all_size (by rfl) | (simp; done) | decide))
        | (intro hfact)
        | (refine Drawn.mk (by kernel_rfl) (fun hfact => ?_))
        | ((try dsimp only); rw [hg]))
      all_goals (try (conv => whnf))
      refine Round.by (k + 1) ?_ hk ?_
      · rw [wrap_succ hk hmax, ← flatten_take_succ he]
        show norm _ _ = upd _ _
        kernel_rfl
      · show ls.length - (k + 1) < ls.length - k
        omega
    · have hlt : ¬ decide ((k : Int) < ((ls.map I.list).length : Int)) = true := by simp; omega
      have hall : ls.take k = ls := List.take_of_length_le (by omega)
      repeat' ((conv => whnf); first
        | (refine And.intro (fun hb => ?_) (fun hb => ?_) <;> first | (exact absurd hb (by first | assumption | decide)) | (rw [hb]) | skip)
        | (refine Exists.intro ?_ ?_; focus (and_intros <;> first | omega | exact rfl | assumption | (intro _ hh; cases hh; done) | exact all_size (by rfl) | (simp; done) | decide))
        | (intro hfact)
        | (refine Drawn.mk (by kernel_rfl) (fun hfact => ?_)))
      all_goals (try (conv => whnf))
      exact Done.mk ⟨by rw [hall], by kernel_rfl⟩ (by kernel_rfl)
end Go.Ab

