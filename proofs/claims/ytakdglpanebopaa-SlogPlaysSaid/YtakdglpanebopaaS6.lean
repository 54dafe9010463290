/- One text of the proof whose last text says what is proved. -/
import Derived.Test.YtakdglpanebopaaS5
set_option linter.unusedVariables false
set_option linter.unusedSimpArgs false
set_option maxRecDepth 100000
namespace Go.Ab
open Go.Proofs

theorem Ent.ext_iff' {a b : Ent} : a = b ↔ a.i = b.i ∧ a.t = b.t ∧ a.d = b.d := by
  cases a; cases b; simp
theorem spec_same (a b : List Ent) : Fn Try.prog F_exchequerref11_Same [.v (.list (a.map Ent.toI)), .v (.list (b.map Ent.toI))] (Is (.v (.bool (decide (a = b)))) [.no, .no]) := by
  refine of_exchequerref11_Same ?_ (by simp)
  by_cases hlen : a.length = b.length
  · have n1 : ¬ (!decide (((a.map Ent.toI).length : Int) = ((b.map Ent.toI).length : Int))) = true := by simp [hlen]
    repeat' ((conv => whnf); first
      | (refine And.intro (fun hb => ?_) (fun hb => ?_) <;> first | (exact absurd hb (by first | assumption | decide)) | (rw [hb]) | skip)
      | (refine Exists.intro ?_ ?_; focus (and_intros <;> first | omega | exact rfl | assumption | (intro _ hh; cases hh; done) | exact all_size (by rfl) | (simp; done) | decide))
      | (intro hfact)
      | (refine Drawn.mk (by kernel_rfl) (fun hfact => ?_)))
    all_goals (try (conv => whnf))
    have hmax : a.length ≤ maxLen := by rw [hlen]; simpa using hfact
    refine LoopWq.by (X := Nat) (fun x => [(5, .v (.int .i64 x))]) (fun x => x ≤ a.length ∧ decide (a.drop x = b.drop x) = decide (a = b)) (fun x => a.length - x)
      0 (by kernel_rfl) ⟨Nat.zero_le _, rfl⟩ ?_
    rintro k ⟨h1, h2⟩
    by_cases hk : k < a.length
    · have hk' : k < b.length := by omega
      obtain ⟨e, he⟩ : ∃ e, a[k]? = some e := ⟨a[k], List.getElem?_eq_getElem hk⟩
      obtain ⟨f, hf⟩ : ∃ f, b[k]? = some f := ⟨b[k], List.getElem?_eq_getElem hk'⟩
      have hg : (a.map Ent.toI)[Int.toNat (k : Int)]? = some e.toI := ents_get he
      have hg' : (b.map Ent.toI)[Int.toNat (k : Int)]? = some f.toI := ents_get hf
      have hlt : ¬ decide ((k : Int) < ((a.map Ent.toI).length : Int)) = false := by simp [hk]
      have hke : a[k] = e := by rw [List.getElem?_eq_getElem hk] at he; simpa using he
      have hkf : b[k] = f := by rw [List.getElem?_eq_getElem hk'] at hf; simpa using hf
      rw [List.drop_eq_getElem_cons hk, List.drop_eq_getElem_cons hk', hke, hkf] at h2
      repeat' ((conv => whnf); first
        | (refine And.intro (fun hb => ?_) (fun hb => ?_) <;> first | (exact absurd hb (by first | assumption | decide)) | (rw [hb]) | skip)
        | (refine Exists.intro ?_ ?_; focus (and_intros <;> first | omega | exact rfl | assumption | (intro _ hh; cases hh; done) | exact all_size (by rfl) | (simp; done) | decide))
        | (intro hfact)
        | (refine Drawn.mk (by kernel_rfl) (fun hfact => ?_))
        | ((try dsimp only); rw [hg])
        | ((try dsimp only); rw [hg']))
      all_goals (try (conv => whnf))
      · refine Done.mk ⟨SV.bool_congr ?_, by kernel_rfl⟩ (by kernel_rfl)
        have hne : ¬ e = f := by
          intro he'
          subst he'
          simp at hb
        rw [← h2]; simp [hne]
      · refine Round.by (k + 1) ?_ ?_ ?_
        · rw [wrap_succ hk hmax]
          show norm _ _ = upd _ _
          kernel_rfl
        · refine ⟨hk, ?_⟩
          have heq : e = f := by rw [Ent.ext_iff']; simpa using hb
          rw [← h2]; simp [heq]
        · show a.length - (k + 1) < a.length - k
          omega
    · have hlt : ¬ decide ((k : Int) < ((a.map Ent.toI).length : Int)) = true := by simp; omega
      rw [List.drop_eq_nil_of_le (by omega), List.drop_eq_nil_of_le (by omega)] at h2
      repeat' ((conv => whnf); first
        | (refine And.intro (fun hb => ?_) (fun hb => ?_) <;> first | (exact absurd hb (by first | assumption | decide)) | (rw [hb]) | skip)
        | (refine Exists.intro ?_ ?_; focus (and_intros <;> first | omega | exact rfl | assumption | (intro _ hh; cases hh; done) | exact all_size (by rfl) | (simp; done) | decide))
        | (intro hfact)
        | (refine Drawn.mk (by kernel_rfl) (fun hfact => ?_)))
      all_goals (try (conv => whnf))
      refine Done.mk ⟨SV.bool_congr ?_, by kernel_rfl⟩ (by kernel_rfl)
      rw [← h2]; simp
  · have n1 : ¬ (!decide (((a.map Ent.toI).length : Int) = ((b.map Ent.toI).length : Int))) = false := by simp; omega
    repeat' ((conv => whnf); first
      | (refine And.intro (fun hb => ?_) (fun hb => ?_) <;> first | (exact absurd hb (by first | assumption | decide)) | (rw [hb]) | skip)
      | (refine Exists.intro ?_ ?_; focus (and_intros <;> first | omega | exact rfl | assumption | (intro _ hh; cases hh; done) | exact all_size (by rfl) | (simp; done) | decide))
      | (intro hfact)
      | (refine Drawn.mk (by kernel_rfl) (fun hfact => ?_)))
    all_goals (try (conv => whnf))
    refine Done.mk ⟨SV.bool_congr ?_, by kernel_rfl⟩ (by kernel_rfl)
    symm
    rw [decide_eq_false_iff_not]
    intro h
    exact hlen (by rw [h])

def greatAt : Nat → List Ent → Bool
  | _, [] => false
  | k, e :: r => decide ((5000 : Int) ≤ k) || decide ((10000 : Int) < e.d.length) || greatAt (k + 1) r
theorem spec_great (a : List Ent) : Fn Try.prog F_exchequerlaw11_great [.v (.list (a.map Ent.toI))] (Is (.v (.bool (greatAt 0 a))) [.no]) := by
  refine of_exchequerlaw11_great ?_ (by simp)
  repeat' ((conv => whnf); first
    | (refine And.intro (fun hb => ?_) (fun hb => ?_) <;> first | (exact absurd hb (by first | assumption | decide)) | (rw [hb]) | skip)
    | (refine Exists.intro ?_ ?_; focus (and_intros <;> first | omega | exact rfl | assumption | (intro _ hh; cases hh; done) | exact all_size (by rfl) | (simp; done) | decide))
    | (intro hfact)
    | (refine Drawn.mk (by kernel_rfl) (fun hfact => ?_)))
  all_goals (try (conv => whnf))
  have hmax : a.length ≤ maxLen := by simpa using hfact
  refine LoopWq.by (X := Nat) (fun x => [(6, .v (.int .i64 x))]) (fun x => x ≤ a.length ∧ greatAt x (a.drop x) = greatAt 0 a) (fun x => a.length - x)
    0 (by kernel_rfl) ⟨Nat.zero_le _, rfl⟩ ?_
  rintro k ⟨h1, h2⟩
  by_cases hk : k < a.length
  · obtain ⟨e, he⟩ : ∃ e, a[k]? = some e := ⟨a[k], List.getElem?_eq_getElem hk⟩
    have hg : (a.map Ent.toI)[Int.toNat (k : Int)]? = some e.toI := ents_get he
    have hlt : ¬ decide ((k : Int) < ((a.map Ent.toI).length : Int)) = false := by simp [hk]
    have hke : a[k] = e := by rw [List.getElem?_eq_getElem hk] at he; simpa using he
    rw [List.drop_eq_getElem_cons hk, hke] at h2
    repeat' ((conv => whnf); first
      | (refine And.intro (fun hb => ?_) (fun hb => ?_) <;> first | (exact absurd hb (by first | assumption | decide)) | (rw [hb]) | skip)
      | (refine Exists.intro ?_ ?_; focus (and_intros <;> first | omega | exact rfl | assumption | (intro _ hh; cases hh; done) | exact all_size (by rfl) | (simp; done) | decide))
      | (intro hfact)
      | (refine Drawn.mk (by kernel_rfl) (fun hfact => ?_))
      | ((try dsimp only); rw [hg]))
    all_goals (try (conv => whnf))
    · refine Done.mk ⟨SV.bool_congr ?_, by kernel_rfl⟩ (by kernel_rfl)
      rw [← h2]; clear h2; simp only [greatAt, *, Bool.false_or, Bool.true_or]
    · refine Done.mk ⟨SV.bool_congr ?_, by kernel_rfl⟩ (by kernel_rfl)
      rw [← h2]; clear h2; simp only [greatAt, *, Bool.false_or, Bool.true_or]
    · refine Round.by (k + 1) ?_ ?_ ?_
      · rw [wrap_succ hk hmax]
        show norm _ _ = upd _ _
        kernel_rfl
      · refine ⟨hk, ?_⟩
        rw [← h2]; clear h2; simp only [greatAt, *, Bool.false_or]
      · show a.length - (k + 1) < a.length - k
        omega
  · have hlt : ¬ decide ((k : Int) < ((a.map Ent.toI).length : Int)) = true := by simp; omega
    rw [List.drop_eq_nil_of_le (by omega)] at h2
    repeat' ((conv => whnf); first
      | (refine And.intro (fun hb => ?_) (fun hb => ?_) <;> first | (exact absurd hb (by first | assumption | decide)) | (rw [hb]) | skip)
      | (refine Exists.intro ?_ ?_; focus (and_intros <;> first | omega | exact rfl | assumption | (intro _ hh; cases hh; done) | exact all_size (by rfl) | (simp; done) | decide))
      | (intro hfact)
      | (refine Drawn.mk (by kernel_rfl) (fun hfact => ?_)))
    all_goals (try (conv => whnf))
    refine Done.mk ⟨SV.bool_congr ?_, by kernel_rfl⟩ (by kernel_rfl)
    rw [← h2]; simp [greatAt]
theorem great_spec {a : List Ent} (h : greatAt 0 a = false) : a.length ≤ 5000 ∧ ∀ e ∈ a, e.d.length ≤ 10000 := by
  have aux : ∀ (a : List Ent) (k : Nat), greatAt k a = false → (a = [] ∨ k + a.length ≤ 5000) ∧ ∀ e ∈ a, e.d.length ≤ 10000 := by
    intro a
    induction a with
    | nil => intro k _; exact ⟨.inl rfl, fun e h => by cases h⟩
    | cons e r ih =>
      intro k h
      simp only [greatAt, Bool.or_eq_false_iff, decide_eq_false_iff_not] at h
      obtain ⟨⟨h1, h2⟩, h3⟩ := h
      obtain ⟨h4, h5⟩ := ih (k + 1) h3
      refine ⟨.inr ?_, fun x hx => ?_⟩
      · rcases h4 with rfl | h4
        · simp; omega
        · simp; omega
      · rcases List.mem_cons.mp hx with rfl | hx
        · omega
        · exact h5 x hx
  obtain ⟨h1, h2⟩ := aux a 0 h
  refine ⟨?_, h2⟩
  rcases h1 with rfl | h1
  · simp
  · omega
theorem spec_entry (i t : Int) : Fn Try.prog F_exchequerlaw11_entry [.v (.int .i64 i), .v (.int .i64 t)] (Is (.v (⟨i, t, [120]⟩ : Ent).toI) [.no, .no]) := by
  refine of_exchequerlaw11_entry ?_ (by simp)
  repeat' ((conv => whnf); first
    | (refine And.intro (fun hb => ?_) (fun hb => ?_) <;> first | (exact absurd hb (by first | assumption | decide)) | (rw [hb]) | skip)
    | (refine Exists.intro ?_ ?_; focus (and_intros <;> first | omega | exact rfl | assumption | (intro _ hh; cases hh; done) | exact all_size (by rfl) | (simp; done) | decide))
    | (intro hfact)
    | (refine Drawn.mk (by kernel_rfl) (fun hfact => ?_)))
  all_goals (try (conv => whnf))
  exact Done.mk ⟨rfl, by kernel_rfl⟩ (by kernel_rfl)
end Go.Ab

