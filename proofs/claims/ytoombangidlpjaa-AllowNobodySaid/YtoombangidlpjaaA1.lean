/- One text of the proof whose last text says what is proved. -/
import Derived.Test.YtoombangidlpjaaAb21c
import Derived.Test.YtoombangidlpjaaA0
set_option linter.unusedVariables false
set_option linter.unusedSimpArgs false
set_option maxRecDepth 100000
set_option maxHeartbeats 4000000
namespace Go.Ab
open Go.Proofs

def withinM (s : Str) (k lo hi : Int) : Bool := match s[k.toNat]? with
  | some c => decide (lo ≤ (c.toNat : Int) ∧ (c.toNat : Int) ≤ hi)
  | none => false
theorem spec_within (s : Str) (k lo hi : Int) (h0 : 0 ≤ k) : Fn Try.prog F_exchequerref04_within [.v (.str s), .v (.int .i64 k), .v (.int .u8 lo), .v (.int .u8 hi)] (Is (.v (.bool (withinM s k lo hi))) [.no, .no, .no, .no]) := by
  refine of_exchequerref04_within ?_ (by simp)
  by_cases hk : k.toNat < s.length
  · obtain ⟨c, hc⟩ : ∃ c, s[k.toNat]? = some c := ⟨_, List.getElem?_eq_getElem hk⟩
    have hlt : ¬ decide (k < (s.length : Int)) = false := by simp; omega
    repeat' ((conv => whnf); first
      | (refine And.intro (fun hb => ?_) (fun hb => ?_) <;> first | (exact absurd hb (by first | assumption | decide)) | (rw [hb]) | skip)
      | (refine Exists.intro ?_ ?_; focus (and_intros <;> first | omega | exact rfl | assumption | (intro _ hh; cases hh; done) | exact all_size (by rfl) | (simp; done) | decide))
      | (intro hfact)
      | ((with_reducible apply Drawn.by0); (focus kernel_rfl); intro hfact)
      | ((try dsimp only); rw [hc]))
    all_goals (try (conv => whnf))
    all_goals (refine Done.mk ⟨SV.bool_congr ?_, by kernel_rfl⟩ (by kernel_rfl))
    all_goals (simp only [withinM, hc]; simp at *; first | done | omega | grind)
  · have hlt : ¬ decide (k < (s.length : Int)) = true := by simp; omega
    repeat' ((conv => whnf); first
      | (refine And.intro (fun hb => ?_) (fun hb => ?_) <;> first | (exact absurd hb (by first | assumption | decide)) | (rw [hb]) | skip)
      | (refine Exists.intro ?_ ?_; focus (and_intros <;> first | omega | exact rfl | assumption | (intro _ hh; cases hh; done) | exact all_size (by rfl) | (simp; done) | decide))
      | (intro hfact)
      | ((with_reducible apply Drawn.by0); (focus kernel_rfl); intro hfact))
    all_goals (try (conv => whnf))
    refine Done.mk ⟨SV.bool_congr ?_, by kernel_rfl⟩ (by kernel_rfl)
    simp [withinM, List.getElem?_eq_none (show s.length ≤ k.toNat by omega)]
def tailM (s : Str) (k n : Nat) : Bool := (List.range n).all fun i => withinM s ((k + i : Nat) : Int) 128 191
theorem spec_tail (s : Str) (k n : Nat) (hk : k ≤ 10) (hn : n ≤ 10) : Fn Try.prog F_exchequerref04_tail [.v (.str s), .v (.int .i64 k), .v (.int .i64 n)] (Is (.v (.bool (tailM s k n))) [.no, .no, .no]) := by
  refine of_exchequerref04_tail ?_ (by simp)
  repeat' ((conv => whnf); first
    | (refine And.intro (fun hb => ?_) (fun hb => ?_) <;> first | (exact absurd hb (by first | assumption | decide)) | (rw [hb]) | skip)
    | (refine Exists.intro ?_ ?_; focus (and_intros <;> first | omega | exact rfl | assumption | (intro _ hh; cases hh; done) | exact all_size (by rfl) | (simp; done) | decide))
    | (intro hfact)
    | ((with_reducible apply Drawn.by0); (focus kernel_rfl); intro hfact))
  all_goals (try (conv => whnf))
  refine LoopWq.by (X := Nat) (fun x => [(7, .v (.int .i64 x))]) (fun x => x ≤ n ∧ tailM s k x = true) (fun x => n - x) 0 (by kernel_rfl) ⟨Nat.zero_le _, rfl⟩ ?_
  rintro x ⟨h1, h2⟩
  by_cases hx : x < n
  · have hlt : ¬ decide ((x : Int) < (n : Int)) = false := by simp [hx]
    have hw : IntKind.i64.wrap ((k : Int) + (x : Int)) = ((k + x : Nat) : Int) := by
      rw [show (k : Int) + (x : Int) = ((k + x : Nat) : Int) by omega]; exact wrap_id (by omega)
    have hs := spec_within s ((k + x : Nat) : Int) 128 191 (by omega)
    repeat' ((conv => whnf); first
      | (refine And.intro (fun hb => ?_) (fun hb => ?_) <;> first | (exact absurd hb (by first | assumption | decide)) | (rw [hb]) | skip)
      | (refine Exists.intro ?_ ?_; focus (and_intros <;> first | omega | exact rfl | assumption | (intro _ hh; cases hh; done) | exact all_size (by rfl) | (simp; done) | decide))
      | (intro hfact)
      | ((with_reducible apply Drawn.by0); (focus kernel_rfl); intro hfact)
      | ((try dsimp only); rw [hw])
      | (refine CallWp.mk ⟨_, hs, ?_⟩; rintro _ _ ⟨rfl, rfl⟩))
    all_goals (try (conv => whnf))
    · rename_i hb
      refine Done.mk ⟨SV.bool_congr ?_, by kernel_rfl⟩ (by kernel_rfl)
      simp only [Bool.not_eq_true'] at hb
      symm
      simp only [tailM, List.all_eq_false, List.mem_range]
      exact ⟨x, hx, by rw [hb]; decide⟩
    · rename_i hb
      refine Round.by (x + 1) ?_ ⟨hx, ?_⟩ (by omega)
      · rw [wrap_succ hx (by simp only [maxLen]; omega)]
        show norm _ _ = upd _ _
        kernel_rfl
      · unfold tailM at h2 ⊢
        rw [List.range_succ, List.all_append, h2]
        simp only [Bool.not_eq_false'] at hb
        simp only [List.all_cons, List.all_nil, Bool.and_true, Bool.true_and]; exact hb
  · have hlt : ¬ decide ((x : Int) < (n : Int)) = true := by simp; omega
    have : x = n := by omega
    subst this
    repeat' ((conv => whnf); first
      | (refine And.intro (fun hb => ?_) (fun hb => ?_) <;> first | (exact absurd hb (by first | assumption | decide)) | (rw [hb]) | skip)
      | (refine Exists.intro ?_ ?_; focus (and_intros <;> first | omega | exact rfl | assumption | (intro _ hh; cases hh; done) | exact all_size (by rfl) | (simp; done) | decide))
      | (intro hfact)
      | ((with_reducible apply Drawn.by0); (focus kernel_rfl); intro hfact))
    all_goals (try (conv => whnf))
    refine Done.mk ⟨SV.bool_congr ?_, by kernel_rfl⟩ (by kernel_rfl)
    exact h2.symm
def sizeM (s : Str) : Int :=
  if withinM s 0 0 127 then 1
  else if (withinM s 0 194 223 && tailM s 1 1) then 2
  else if (tailM s 1 2 && ((withinM s 0 224 224 && withinM s 1 160 191) || withinM s 0 225 236 || (withinM s 0 237 237 && withinM s 1 128 159) || withinM s 0 238 239)) then 3
  else if (tailM s 1 3 && ((withinM s 0 240 240 && withinM s 1 144 191) || withinM s 0 241 243 || (withinM s 0 244 244 && withinM s 1 128 143))) then 4
  else 0
theorem spec_size (s : Str) : Fn Try.prog F_exchequerref04_Size [.v (.str s)] (Is (.v (.int .i64 (sizeM s))) [.no]) := by
  refine of_exchequerref04_Size ?_ (by simp)
  have t1 := spec_tail s 1 1 (by omega) (by omega)
  have t2 := spec_tail s 1 2 (by omega) (by omega)
  have t3 := spec_tail s 1 3 (by omega) (by omega)
  repeat' ((conv => whnf); first
    | (refine And.intro (fun hb => ?_) (fun hb => ?_) <;> first | (exact absurd hb (by first | assumption | decide)) | (rw [hb]) | skip)
    | (refine Exists.intro ?_ ?_; focus (and_intros <;> first | omega | exact rfl | assumption | (intro _ hh; cases hh; done) | exact all_size (by rfl) | (simp; done) | decide))
    | (intro hfact)
    | ((with_reducible apply Drawn.by0); (focus kernel_rfl); intro hfact)
    | (refine CallWp.mk ⟨_, spec_within _ _ _ _ (by omega), ?_⟩; rintro _ _ ⟨rfl, rfl⟩)
    | (refine CallWp.mk ⟨_, t1, ?_⟩; rintro _ _ ⟨rfl, rfl⟩)
    | (refine CallWp.mk ⟨_, t2, ?_⟩; rintro _ _ ⟨rfl, rfl⟩)
    | (refine CallWp.mk ⟨_, t3, ?_⟩; rintro _ _ ⟨rfl, rfl⟩))
  all_goals (try (conv => whnf))
  all_goals (refine Done.mk ⟨congrArg (fun n => SV.v (.int .i64 n)) ?_, by kernel_rfl⟩ (by kernel_rfl))
  all_goals (unfold sizeM; simp at *; grind)
end Go.Ab

