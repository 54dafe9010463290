/- One text of the proof whose last text says what is proved. -/
import Derived.Test.YtbpnhefkfamhaaaP6
set_option linter.unusedVariables false
set_option linter.unusedSimpArgs false
set_option maxRecDepth 100000
set_option maxHeartbeats 1000000
namespace Go.Ab
open Go.Proofs

def greatS : Nat → List Sp → Bool
  | _, [] => false
  | k, s :: r => decide ((40 : Int) ≤ k) || decide ((1000 : Int) < s.f.length) || decide ((1000 : Int) < s.t.length) || greatS (k + 1) r
def greatT : List Str → Bool
  | [] => false
  | s :: r => decide ((1000 : Int) < s.length) || greatT r
abbrev strs (m : List Str) : List I := m.map I.str
theorem strs_get {m : List Str} {k : Nat} {e : Str} (h : m[k]? = some e) : (strs m)[k]? = some (.str e) := by simp [h]
theorem spec_greatS (l : List Sp) (m : List Str) : Fn Try.prog F_exchequerlaw05_great [.v (.list (sps l)), .v (.list (strs m))] (Is (.v (.bool (greatS 0 l || greatT m))) [.no, .no]) := by
  refine of_exchequerlaw05_great ?_ (by simp)
  repeat' ((conv => whnf); first
    | (refine And.intro (fun hb => ?_) (fun hb => ?_) <;> first | (exact absurd hb (by first | assumption | decide)) | (rw [hb]) | skip)
    | (refine Exists.intro ?_ ?_; focus (and_intros <;> first | omega | exact rfl | assumption | (intro _ hh; cases hh; done) | exact all_size (by rfl) | (simp; done) | decide))
    | (intro hfact)
    | (refine Drawn.mk (by kernel_rfl) (fun hfact => ?_)))
  all_goals (try (conv => whnf))
  have hmax : l.length ≤ maxLen := by simpa using hfact
  refine LoopWq.by (X := Nat) (fun x => [(9, .v (.int .i64 x))]) (fun x => x ≤ l.length ∧ greatS x (l.drop x) = greatS 0 l) (fun x => l.length - x)
    0 (by kernel_rfl) ⟨Nat.zero_le _, rfl⟩ ?_
  rintro k ⟨h1, h2⟩
  by_cases hk : k < l.length
  · obtain ⟨e, he⟩ : ∃ e, l[k]? = some e := ⟨_, List.getElem?_eq_getElem hk⟩
    have hg : (sps l)[Int.toNat (k : Int)]? = some e.toI := sps_get he
    have hlt : ¬ decide ((k : Int) < ((sps l).length : Int)) = false := by simp [hk]
    have hke : l[k] = e := by rw [List.getElem?_eq_getElem hk] at he; simpa using he
    rw [List.drop_eq_getElem_cons hk, hke] at h2
    repeat' ((conv => whnf); first
      | (refine And.intro (fun hb => ?_) (fun hb => ?_) <;> first | (exact absurd hb (by first | assumption | decide)) | (rw [hb]) | skip)
      | (refine Exists.intro ?_ ?_; focus (and_intros <;> first | omega | exact rfl | assumption | (intro _ hh; cases hh; done) | exact all_size (by rfl) | (simp; done) | decide))
      | (intro hfact)
      | (refine Drawn.mk (by kernel_rfl) (fun hfact => ?_))
      | ((try dsimp only); rw [hg]))
    all_goals (try (conv => whnf))
    all_goals first
      | (refine Done.mk ⟨SV.bool_congr ?_, by kernel_rfl⟩ (by kernel_rfl)
         rw [← h2]; clear h2; simp only [greatS, *, Bool.false_or, Bool.true_or]; done)
      | (refine Round.by (k + 1) ?_ ?_ ?_
         · rw [wrap_succ hk hmax]
           show norm _ _ = upd _ _
           kernel_rfl
         · refine ⟨hk, ?_⟩
           rw [← h2]; clear h2; simp only [greatS, *, Bool.false_or]
         · show l.length - (k + 1) < l.length - k
           omega)
  · have hlt : ¬ decide ((k : Int) < ((sps l).length : Int)) = true := by simp; omega
    rw [List.drop_eq_nil_of_le (by omega)] at h2
    have h3 : greatS 0 l = false := h2.symm
    rw [h3, Bool.false_or]
    repeat' ((conv => whnf); first
      | (refine And.intro (fun hb => ?_) (fun hb => ?_) <;> first | (exact absurd hb (by first | assumption | decide)) | (rw [hb]) | skip)
      | (refine Exists.intro ?_ ?_; focus (and_intros <;> first | omega | exact rfl | assumption | (intro _ hh; cases hh; done) | exact all_size (by rfl) | (simp; done) | decide))
      | (intro hfact)
      | (refine Drawn.mk (by kernel_rfl) (fun hfact => ?_)))
    all_goals (try (conv => whnf))
    have hmax2 : m.length ≤ maxLen := by simpa using hfact
    refine LoopWq.by (X := Nat) (fun x => [(35, .v (.int .i64 x))]) (fun x => x ≤ m.length ∧ greatT (m.drop x) = greatT m) (fun x => m.length - x)
      0 (by kernel_rfl) ⟨Nat.zero_le _, rfl⟩ ?_
    rintro j ⟨g1, g2⟩
    by_cases hj : j < m.length
    · obtain ⟨e, he⟩ : ∃ e, m[j]? = some e := ⟨_, List.getElem?_eq_getElem hj⟩
      have hg : (strs m)[Int.toNat (j : Int)]? = some (.str e) := strs_get he
      have hlt : ¬ decide ((j : Int) < ((strs m).length : Int)) = false := by simp [hj]
      have hke : m[j] = e := by rw [List.getElem?_eq_getElem hj] at he; simpa using he
      rw [List.drop_eq_getElem_cons hj, hke] at g2
      repeat' ((conv => whnf); first
        | (refine And.intro (fun hb => ?_) (fun hb => ?_) <;> first | (exact absurd hb (by first | assumption | decide)) | (rw [hb]) | skip)
        | (refine Exists.intro ?_ ?_; focus (and_intros <;> first | omega | exact rfl | assumption | (intro _ hh; cases hh; done) | exact all_size (by rfl) | (simp; done) | decide))
        | (intro hfact)
        | (refine Drawn.mk (by kernel_rfl) (fun hfact => ?_))
        | ((try dsimp only); rw [hg]))
      all_goals (try (conv => whnf))
      all_goals first
        | (refine Done.mk ⟨SV.bool_congr ?_, by kernel_rfl⟩ (by kernel_rfl)
           rw [← g2]; clear g2; simp only [greatT, *, Bool.false_or, Bool.true_or]; done)
        | (refine Round.by (j + 1) ?_ ?_ ?_
           · rw [wrap_succ hj hmax2]
             show norm _ _ = upd _ _
             kernel_rfl
           · refine ⟨hj, ?_⟩
             rw [← g2]; clear g2; simp only [greatT, *, Bool.false_or]
           · show m.length - (j + 1) < m.length - j
             omega)
    · have hlt : ¬ decide ((j : Int) < ((strs m).length : Int)) = true := by simp; omega
      rw [List.drop_eq_nil_of_le (by omega)] at g2
      repeat' ((conv => whnf); first
        | (refine And.intro (fun hb => ?_) (fun hb => ?_) <;> first | (exact absurd hb (by first | assumption | decide)) | (rw [hb]) | skip)
        | (refine Exists.intro ?_ ?_; focus (and_intros <;> first | omega | exact rfl | assumption | (intro _ hh; cases hh; done) | exact all_size (by rfl) | (simp; done) | decide))
        | (intro hfact)
        | (refine Drawn.mk (by kernel_rfl) (fun hfact => ?_)))
      all_goals (try (conv => whnf))
      refine Done.mk ⟨SV.bool_congr ?_, by kernel_rfl⟩ (by kernel_rfl)
      rw [← g2]
      rfl
theorem greatS_no {l : List Sp} (h : greatS 0 l = false) : l.length ≤ 40 ∧ ∀ s ∈ l, s.f.length ≤ 1000 ∧ s.t.length ≤ 1000 := by
  have aux : ∀ (l : List Sp) (k : Nat), greatS k l = false → (l = [] ∨ k + l.length ≤ 40) ∧ ∀ s ∈ l, s.f.length ≤ 1000 ∧ s.t.length ≤ 1000 := by
    intro l
    induction l with
    | nil => intro k _; exact ⟨.inl rfl, fun e h => by cases h⟩
    | cons e r ih =>
      intro k h
      simp only [greatS, Bool.or_eq_false_iff, decide_eq_false_iff_not] at h
      obtain ⟨⟨⟨h1, h2⟩, h2'⟩, h3⟩ := h
      obtain ⟨h4, h5⟩ := ih (k + 1) h3
      refine ⟨.inr ?_, fun x hx => ?_⟩
      · rcases h4 with rfl | h4
        · simp; omega
        · simp; omega
      · rcases List.mem_cons.mp hx with rfl | hx
        · omega
        · exact h5 x hx
  obtain ⟨h1, h2⟩ := aux l 0 h
  refine ⟨?_, h2⟩
  rcases h1 with rfl | h1
  · simp
  · omega
theorem greatT_no {m : List Str} (h : greatT m = false) : ∀ s ∈ m, s.length ≤ 1000 := by
  induction m with
  | nil => simp
  | cons e r ih =>
    simp only [greatT, Bool.or_eq_false_iff, decide_eq_false_iff_not] at h
    intro s hs
    rcases List.mem_cons.1 hs with rfl | hs
    · omega
    · exact ih h.2 s hs
abbrev awS : List Sp := [⟨[98], [100]⟩, ⟨[97], [99]⟩, ⟨[100], [101]⟩]
theorem uni_aw : uni awS = [⟨[97], [101]⟩] := by
  rw [← union_any (l := awS) (p := [⟨[97], [99]⟩, ⟨[98], [100]⟩, ⟨[100], [101]⟩]) (by decide) (by decide)]
  decide
theorem spec_awakeS (hnil : SortNil) : Fn Try.prog F_exchequerlaw05_awake [] (Is (.v (.bool true)) []) := by
  refine of_exchequerlaw05_awake ?_ (by simp)
  have hu := spec_union hnil awS (by decide)
  rw [uni_aw] at hu
  have hun := spec_under [97] (by decide)
  have hue : under [97] = [98] := by decide
  rw [hue] at hun
  have hr := spec_sright ⟨[97], [101]⟩
  have hrd : decide (SpR ⟨[97], [101]⟩) = true := by decide
  rw [hrd] at hr
  have hg : (sps [⟨[97], [101]⟩])[Int.toNat 0]? = some (⟨[97], [101]⟩ : Sp).toI := rfl
  repeat' ((conv => whnf); first
    | (refine And.intro (fun hb => ?_) (fun hb => ?_) <;> first | (exact absurd hb (by first | assumption | decide)) | (rw [hb]) | skip)
    | (refine Exists.intro ?_ ?_; focus (and_intros <;> first | omega | exact rfl | assumption | (intro _ hh; cases hh; done) | exact all_size (by rfl) | (simp; done) | decide))
    | (intro hfact)
    | (refine Drawn.mk (by kernel_rfl) (fun hfact => ?_))
    | (refine CallWp.mk ⟨_, hu, ?_⟩; rintro _ _ ⟨rfl, rfl⟩)
    | (refine CallWp.mk ⟨_, hun, ?_⟩; rintro _ _ ⟨rfl, rfl⟩)
    | (refine CallWp.mk ⟨_, hr, ?_⟩; rintro _ _ ⟨rfl, rfl⟩)
    | ((try dsimp only); rw [hg]))
  all_goals (try (conv => whnf))
  exact Done.mk ⟨rfl, by kernel_rfl⟩ (by kernel_rfl)
end Go.Ab

