/- One text of the proof whose last text says what is proved. -/
import Derived.Test.YtoombangidlpjaaA7
import Derived.Test.YtoombangidlpjaaA9
set_option linter.unusedVariables false
set_option linter.unusedSimpArgs false
set_option maxRecDepth 100000
set_option maxHeartbeats 8000000
namespace Go.Ab
open Go.Proofs

theorem sumB_length (s : Str) : (sumB s).length = 32 := outB_length _ 8 (by omega)
def hashStep (salt h : Str) : Str := sumB (joinB [h, salt])
def hashN (salt word : Str) : Nat → Str
  | 0 => sumB (joinB [salt, word])
  | n + 1 => hashStep salt (hashN salt word n)
def hashM (salt word : Str) : Str := hashN salt word 8
theorem hashN_length (salt word : Str) : ∀ n, (hashN salt word n).length = 32
  | 0 => sumB_length _
  | _ + 1 => sumB_length _
theorem joinB2_le (a b : Str) (ha : a.length ≤ 1000000) (hb : b.length ≤ 1000000) : (joinB [a, b]).length ≤ 100000000 := by
  have := joinB_le (l := [a, b]) (m := 1000000) (by intro s hs; simp at hs; rcases hs with rfl | rfl <;> assumption)
  simp at this
  omega
theorem spec_hash (salt word : Str) (h1 : salt.length ≤ 1000000) (h2 : word.length ≤ 1000000) : Fn Try.prog F_exchequerref15_Hash [.v (.str salt), .v (.str word)] (Is (.v (.str (hashM salt word))) [.no, .no]) := by
  refine of_exchequerref15_Hash ?_ (by simp)
  have j0 := spec_joined [salt, word] (by simp) (by intro s hs; simp at hs; rcases hs with rfl | rfl <;> assumption)
  have s0 := spec_sum (joinB [salt, word]) (joinB2_le _ _ h1 h2)
  repeat' ((conv => whnf); first
    | (refine And.intro (fun hb => ?_) (fun hb => ?_) <;> first | (exact absurd hb (by first | assumption | decide)) | (with_reducible exact absurd hb Bool.false_ne_true) | (with_reducible exact absurd hb.symm Bool.false_ne_true) | (exfalso; first | (simp only [LENS] at hb <;> omega) | omega) | ((try rw [hb]); (try simp only [NRMS] at hb); (try subst hb)))
    | (refine Exists.intro ?_ ?_; focus (and_intros <;> first | omega | exact rfl | assumption | (intro _ hh; cases hh; done) | exact all_size (by rfl) | exact size_map (fun _ => rfl) | exact size_one rfl | exact take_size (fun _ => rfl) | exact dsize_one rfl | exact dsize_map (fun _ => rfl) | exact dsize_its (fun _ => rfl) | (simp only [LENS]; omega) | (simp; done) | decide))
    | (intro hfact)
    | (refine CallWp.mk ⟨_, j0, ?_⟩; rintro _ _ ⟨rfl, rfl⟩)
    | (refine CallWp.mk ⟨_, s0, ?_⟩; rintro _ _ ⟨rfl, rfl⟩))
  all_goals (try (conv => whnf))
  refine LoopWq.by (X := Nat) (fun t => [(5, .v (.str (hashN salt word t))), (6, .v (.int .i64 t))]) (fun t => t ≤ 8) (fun t => 8 - t)
    0 (by kernel_rfl) (by omega) ?_
  intro t ht
  by_cases ht8 : t < 8
  case pos =>
    have hlt1 : ¬ decide ((t : Int) < 8) = false := by simp; omega
    have hl := hashN_length salt word t
    have hs : hashN salt word (t + 1) = sumB (joinB [hashN salt word t, salt]) := rfl
    obtain ⟨h, hh⟩ : ∃ h, h = hashN salt word t := ⟨_, rfl⟩
    rw [← hh] at hl hs ⊢
    have j1 := spec_joined [h, salt] (by simp) (by intro s hs; simp at hs; rcases hs with rfl | rfl; · omega
                                                   · assumption)
    have s1 := spec_sum (joinB [h, salt]) (joinB2_le _ _ (by omega) h1)
    repeat' ((conv => whnf); first
      | (refine And.intro (fun hb => ?_) (fun hb => ?_) <;> first | (exact absurd hb (by first | assumption | decide)) | (with_reducible exact absurd hb Bool.false_ne_true) | (with_reducible exact absurd hb.symm Bool.false_ne_true) | (exfalso; first | (simp only [LENS] at hb <;> omega) | omega) | ((try rw [hb]); (try simp only [NRMS] at hb); (try subst hb)))
      | (refine Exists.intro ?_ ?_; focus (and_intros <;> first | omega | exact rfl | assumption | (intro _ hh; cases hh; done) | exact all_size (by rfl) | exact size_map (fun _ => rfl) | exact size_one rfl | exact take_size (fun _ => rfl) | exact dsize_one rfl | exact dsize_map (fun _ => rfl) | exact dsize_its (fun _ => rfl) | (simp only [LENS]; omega) | (simp; done) | decide))
      | (intro hfact)
      | (refine CallWp.mk ⟨_, j1, ?_⟩; rintro _ _ ⟨rfl, rfl⟩)
      | (refine CallWp.mk ⟨_, s1, ?_⟩; rintro _ _ ⟨rfl, rfl⟩))
    all_goals (try (conv => whnf))
    refine Round.by (t + 1) ?_ ht8 (by omega)
    rw [wrap_succ ht8 (by simp only [maxLen]; omega), hs]
    show norm _ _ = upd _ _
    kernel_rfl
  have hlt1 : ¬ decide ((t : Int) < 8) = true := by simp; omega
  have ht' : t = 8 := by omega
  subst ht'
  repeat' ((conv => whnf); first
    | (refine And.intro (fun hb => ?_) (fun hb => ?_) <;> first | (exact absurd hb (by first | assumption | decide)) | (with_reducible exact absurd hb Bool.false_ne_true) | (with_reducible exact absurd hb.symm Bool.false_ne_true) | (exfalso; first | (simp only [LENS] at hb <;> omega) | omega) | ((try rw [hb]); (try simp only [NRMS] at hb); (try subst hb)))
    | (refine Exists.intro ?_ ?_; focus (and_intros <;> first | omega | exact rfl | assumption | (intro _ hh; cases hh; done) | exact all_size (by rfl) | exact size_map (fun _ => rfl) | exact size_one rfl | exact take_size (fun _ => rfl) | exact dsize_one rfl | exact dsize_map (fun _ => rfl) | exact dsize_its (fun _ => rfl) | (simp only [LENS]; omega) | (simp; done) | decide))
    | (intro hfact))
  all_goals (try (conv => whnf))
  exact Done.mk ⟨rfl, by kernel_rfl⟩ (by kernel_rfl)

def newRoll (salt word : Str) : Roll := ⟨1, [], [⟨[114, 111, 111, 116], [], salt, hashM salt word, []⟩], []⟩
theorem spec_new (salt word : Str) (h1 : salt.length ≤ 64) (h2 : word.length ≤ 64) : Fn Try.prog F_exchequerref15_New [.v (.str salt), .v (.str word)] (Is (.tup [.i (newRoll salt word).toI, .i (.bool true)]) [.no, .no]) := by
  refine of_exchequerref15_New ?_ (by simp)
  have n1 : ¬ decide (64 < (salt.length : Int)) = true := by simp; omega
  have n2 : ¬ decide (64 < (word.length : Int)) = true := by simp; omega
  have hh := spec_hash salt word (by omega) (by omega)
  repeat' ((conv => whnf); first
    | (refine And.intro (fun hb => ?_) (fun hb => ?_) <;> first | (exact absurd hb (by first | assumption | decide)) | (with_reducible exact absurd hb Bool.false_ne_true) | (with_reducible exact absurd hb.symm Bool.false_ne_true) | (exfalso; first | (simp only [LENS] at hb <;> omega) | omega) | ((try rw [hb]); (try simp only [NRMS] at hb); (try subst hb)))
    | (refine Exists.intro ?_ ?_; focus (and_intros <;> first | omega | exact rfl | assumption | (intro _ hh; cases hh; done) | exact all_size (by rfl) | exact size_map (fun _ => rfl) | exact size_one rfl | exact take_size (fun _ => rfl) | exact dsize_one rfl | exact dsize_map (fun _ => rfl) | exact dsize_its (fun _ => rfl) | (simp only [LENS]; omega) | (simp; done) | decide))
    | (intro hfact)
    | (refine CallWp.mk ⟨_, hh, ?_⟩; rintro _ _ ⟨rfl, rfl⟩))
  all_goals (try (conv => whnf))
  exact Done.mk ⟨by kernel_rfl, by kernel_rfl⟩ (by kernel_rfl)
end Go.Ab

