/- One text of the proof whose last text says what is proved. -/
import Derived.Test.YtbpnhefkfamhaaaP7
set_option linter.unusedVariables false
set_option linter.unusedSimpArgs false
set_option maxRecDepth 100000
set_option maxHeartbeats 1000000
namespace Go.Ab
open Go.Proofs

theorem Sp.ext_iff' {a b : Sp} : a = b ↔ a.f = b.f ∧ a.t = b.t := by
  cases a; cases b; simp
theorem spec_ssame (a b : List Sp) : Fn Try.prog F_exchequerref05_Same [.v (.list (sps a)), .v (.list (sps b))] (Is (.v (.bool (decide (a = b)))) [.no, .no]) := by
  refine of_exchequerref05_Same ?_ (by simp)
  by_cases hlen : a.length = b.length
  · have n1 : ¬ (!decide (((sps a).length : Int) = ((sps b).length : Int))) = true := by simp [hlen]
    repeat' ((conv => whnf); first
      | (refine And.intro (fun hb => ?_) (fun hb => ?_) <;> first | (exact absurd hb (by first | assumption | decide)) | (rw [hb]) | skip)
      | (refine Exists.intro ?_ ?_; focus (and_intros <;> first | omega | exact rfl | assumption | (intro _ hh; cases hh; done) | exact all_size (by rfl) | (simp; done) | decide))
      | (intro hfact)
      | (refine Drawn.mk (by kernel_rfl) (fun hfact => ?_)))
    all_goals (try (conv => whnf))
    have hmax : a.length ≤ maxLen := by rw [hlen]; simpa using hfact
    refine LoopWq.by (X := Nat) (fun x => [(5, .v (.int .i64 x))]) (fun x => x ≤ a.length ∧ decide (a.drop x = b.drop x) = decide (a = b)) (fun x => a.length - x)
      0 (by kernel_rfl) ⟨Nat.zero_le _, rfl⟩ ?_
    rintro k ⟨h1, h2⟩
    by_cases hk : k < a.length
    · have hk' : k < b.length := by omega
      obtain ⟨e, he⟩ : ∃ e, a[k]? = some e := ⟨a[k], List.getElem?_eq_getElem hk⟩
      obtain ⟨f, hf⟩ : ∃ f, b[k]? = some f := ⟨b[k], List.getElem?_eq_getElem hk'⟩
      have hg : (sps a)[Int.toNat (k : Int)]? = some e.toI := sps_get he
      have hg' : (sps b)[Int.toNat (k : Int)]? = some f.toI := sps_get hf
      have hlt : ¬ decide ((k : Int) < ((sps a).length : Int)) = false := by simp [hk]
      have hke : a[k] = e := by rw [List.getElem?_eq_getElem hk] at he; simpa using he
      have hkf : b[k] = f := by rw [List.getElem?_eq_getElem hk'] at hf; simpa using hf
      rw [List.drop_eq_getElem_cons hk, List.drop_eq_getElem_cons hk', hke, hkf] at h2
      repeat' ((conv => whnf); first
        | (refine And.intro (fun hb => ?_) (fun hb => ?_) <;> first | (exact absurd hb (by first | assumption | decide)) | (rw [hb]) | skip)
        | (refine Exists.intro ?_ ?_; focus (and_intros <;> first | omega | exact rfl | assumption | (intro _ hh; cases hh; done) | exact all_size (by rfl) | (simp; done) | decide))
        | (intro hfact)
        | (refine Drawn.mk (by kernel_rfl) (fun hfact => ?_))
        | ((try dsimp only); rw [hg])
        | ((try dsimp only); rw [hg']))
      all_goals (try (conv => whnf))
      · refine Done.mk ⟨SV.bool_congr ?_, by kernel_rfl⟩ (by kernel_rfl)
        have hne : ¬ e = f := by
          intro he'
          subst he'
          simp at hb
        rw [← h2]; simp [hne]
      · refine Round.by (k + 1) ?_ ?_ ?_
        · rw [wrap_succ hk hmax]
          show norm _ _ = upd _ _
          kernel_rfl
        · refine ⟨hk, ?_⟩
          have heq : e = f := by rw [Sp.ext_iff']; simpa using hb
          rw [← h2]; simp [heq]
        · show a.length - (k + 1) < a.length - k
          omega
    · have hlt : ¬ decide ((k : Int) < ((sps a).length : Int)) = true := by simp; omega
      rw [List.drop_eq_nil_of_le (by omega), List.drop_eq_nil_of_le (by omega)] at h2
      repeat' ((conv => whnf); first
        | (refine And.intro (fun hb => ?_) (fun hb => ?_) <;> first | (exact absurd hb (by first | assumption | decide)) | (rw [hb]) | skip)
        | (refine Exists.intro ?_ ?_; focus (and_intros <;> first | omega | exact rfl | assumption | (intro _ hh; cases hh; done) | exact all_size (by rfl) | (simp; done) | decide))
        | (intro hfact)
        | (refine Drawn.mk (by kernel_rfl) (fun hfact => ?_)))
      all_goals (try (conv => whnf))
      refine Done.mk ⟨SV.bool_congr ?_, by kernel_rfl⟩ (by kernel_rfl)
      rw [← h2]; simp
  · have n1 : ¬ (!decide (((sps a).length : Int) = ((sps b).length : Int))) = false := by simp; omega
    repeat' ((conv => whnf); first
      | (refine And.intro (fun hb => ?_) (fun hb => ?_) <;> first | (exact absurd hb (by first | assumption | decide)) | (rw [hb]) | skip)
      | (refine Exists.intro ?_ ?_; focus (and_intros <;> first | omega | exact rfl | assumption | (intro _ hh; cases hh; done) | exact all_size (by rfl) | (simp; done) | decide))
      | (intro hfact)
      | (refine Drawn.mk (by kernel_rfl) (fun hfact => ?_)))
    all_goals (try (conv => whnf))
    refine Done.mk ⟨SV.bool_congr ?_, by kernel_rfl⟩ (by kernel_rfl)
    symm
    rw [decide_eq_false_iff_not]
    intro h
    exact hlen (by rw [h])
theorem spec_ssame_yes {a b : List Sp} (h : a = b) : Fn Try.prog F_exchequerref05_Same [.v (.list (sps a)), .v (.list (sps b))] (Is (.v (.bool true)) [.no, .no]) := by
  have := spec_ssame a b
  rwa [decide_eq_true h] at this

instance (l : List Sp) (k : Str) : Decidable (AnyH l k) := by unfold AnyH; infer_instance
theorem anyH_nil (k : Str) : ¬ AnyH [] k := by simp [AnyH]
theorem anyH_cons (s : Sp) (r : List Sp) (k : Str) : AnyH (s :: r) k ↔ (SpR s ∧ SpH s k) ∨ AnyH r k := by simp [AnyH]
theorem spec_any (l : List Sp) (k : Str) : Fn Try.prog F_exchequerref05_any [.v (.list (sps l)), .v (.str k)] (Is (.v (.bool (decide (AnyH l k)))) [.no, .no]) := by
  refine of_exchequerref05_any ?_ (by simp)
  by_cases hm : l.length ≤ maxLen
  case neg =>
    repeat' ((conv => whnf); first
      | (refine And.intro (fun hb => ?_) (fun hb => ?_) <;> first | (exact absurd hb (by first | assumption | decide)) | (rw [hb]) | skip)
      | (refine Exists.intro ?_ ?_; focus (and_intros <;> first | omega | exact rfl | assumption | (intro _ hh; cases hh; done) | exact all_size (by rfl) | (simp; done) | decide))
      | (intro hfact)
      | (refine Drawn.mk (by kernel_rfl) (fun hfact => ?_)))
    all_goals (try (conv => whnf))
    refine LoopWq.by (X := Unit) (fun _ => [(5, .v (.int .i64 0))]) (fun _ => True) (fun _ => 0) () (by kernel_rfl) trivial ?_
    rintro _ _
    repeat' ((conv => whnf); first
      | (refine And.intro (fun hb => ?_) (fun hb => ?_) <;> first | (exact absurd hb (by first | assumption | decide)) | (rw [hb]) | skip)
      | (refine Exists.intro ?_ ?_; focus (and_intros <;> first | omega | exact rfl | assumption | (intro _ hh; cases hh; done) | exact all_size (by rfl) | (simp; done) | decide))
      | (intro hfact)
      | (refine Drawn.mk (by kernel_rfl) (fun hfact => ?_)))
    all_goals (try (conv => whnf))
    all_goals exact absurd (by simpa using (by assumption : (sps l).length ≤ maxLen)) hm
  repeat' ((conv => whnf); first
    | (refine And.intro (fun hb => ?_) (fun hb => ?_) <;> first | (exact absurd hb (by first | assumption | decide)) | (rw [hb]) | skip)
    | (refine Exists.intro ?_ ?_; focus (and_intros <;> first | omega | exact rfl | assumption | (intro _ hh; cases hh; done) | exact all_size (by rfl) | (simp; done) | decide))
    | (intro hfact)
    | (refine Drawn.mk (by kernel_rfl) (fun hfact => ?_)))
  all_goals (try (conv => whnf))
  refine LoopWq.by (X := Nat) (fun x => [(5, .v (.int .i64 x))]) (fun x => x ≤ l.length ∧ (AnyH (l.drop x) k ↔ AnyH l k)) (fun x => l.length - x)
    0 (by kernel_rfl) ⟨Nat.zero_le _, Iff.rfl⟩ ?_
  rintro j ⟨h1, h2⟩
  by_cases hj : j < l.length
  · obtain ⟨e, he⟩ : ∃ e, l[j]? = some e := ⟨_, List.getElem?_eq_getElem hj⟩
    have hg : (sps l)[Int.toNat (j : Int)]? = some e.toI := sps_get he
    have hlt : ¬ decide ((j : Int) < ((sps l).length : Int)) = false := by simp [hj]
    have hke : l[j] = e := by rw [List.getElem?_eq_getElem hj] at he; simpa using he
    rw [List.drop_eq_getElem_cons hj, hke, anyH_cons] at h2
    have hround : l.length - (j + 1) < l.length - j := by omega
    by_cases hr : SpR e
    · have n1 : ¬ decide (SpR e) = false := by simp [hr]
      by_cases hh : SpH e k
      · have n2 : ¬ decide (SpH e k) = false := by simp [hh]
        repeat' ((conv => whnf); first
          | (refine And.intro (fun hb => ?_) (fun hb => ?_) <;> first | (exact absurd hb (by first | assumption | decide)) | (rw [hb]) | skip)
          | (refine Exists.intro ?_ ?_; focus (and_intros <;> first | omega | exact rfl | assumption | (intro _ hh; cases hh; done) | exact all_size (by rfl) | (simp; done) | decide))
          | (intro hfact)
          | (refine Drawn.mk (by kernel_rfl) (fun hfact => ?_))
          | ((try dsimp only); rw [hg])
          | (refine CallWp.mk ⟨_, spec_srright _, ?_⟩; rintro _ _ ⟨rfl, rfl⟩)
          | (refine CallWp.mk ⟨_, spec_srhas _ _, ?_⟩; rintro _ _ ⟨rfl, rfl⟩))
        all_goals (try (conv => whnf))
        refine Done.mk ⟨SV.bool_congr ?_, by kernel_rfl⟩ (by kernel_rfl)
        symm
        simpa using h2.1 (.inl ⟨hr, hh⟩)
      · have n2 : ¬ decide (SpH e k) = true := by simp [hh]
        repeat' ((conv => whnf); first
          | (refine And.intro (fun hb => ?_) (fun hb => ?_) <;> first | (exact absurd hb (by first | assumption | decide)) | (rw [hb]) | skip)
          | (refine Exists.intro ?_ ?_; focus (and_intros <;> first | omega | exact rfl | assumption | (intro _ hh; cases hh; done) | exact all_size (by rfl) | (simp; done) | decide))
          | (intro hfact)
          | (refine Drawn.mk (by kernel_rfl) (fun hfact => ?_))
          | ((try dsimp only); rw [hg])
          | (refine CallWp.mk ⟨_, spec_srright _, ?_⟩; rintro _ _ ⟨rfl, rfl⟩)
          | (refine CallWp.mk ⟨_, spec_srhas _ _, ?_⟩; rintro _ _ ⟨rfl, rfl⟩))
        all_goals (try (conv => whnf))
        refine Round.by (j + 1) ?_ ⟨hj, by rw [← h2]; simp [hh]⟩ hround
        rw [wrap_succ hj hm]
        show norm _ _ = upd _ _
        kernel_rfl
    · have n1 : ¬ decide (SpR e) = true := by simp [hr]
      repeat' ((conv => whnf); first
        | (refine And.intro (fun hb => ?_) (fun hb => ?_) <;> first | (exact absurd hb (by first | assumption | decide)) | (rw [hb]) | skip)
        | (refine Exists.intro ?_ ?_; focus (and_intros <;> first | omega | exact rfl | assumption | (intro _ hh; cases hh; done) | exact all_size (by rfl) | (simp; done) | decide))
        | (intro hfact)
        | (refine Drawn.mk (by kernel_rfl) (fun hfact => ?_))
        | ((try dsimp only); rw [hg])
        | (refine CallWp.mk ⟨_, spec_srright _, ?_⟩; rintro _ _ ⟨rfl, rfl⟩)
        | (refine CallWp.mk ⟨_, spec_srhas _ _, ?_⟩; rintro _ _ ⟨rfl, rfl⟩))
      all_goals (try (conv => whnf))
      refine Round.by (j + 1) ?_ ⟨hj, by rw [← h2]; simp [hr]⟩ hround
      rw [wrap_succ hj hm]
      show norm _ _ = upd _ _
      kernel_rfl
  · have hlt : ¬ decide ((j : Int) < ((sps l).length : Int)) = true := by simp; omega
    rw [List.drop_eq_nil_of_le (by omega)] at h2
    repeat' ((conv => whnf); first
      | (refine And.intro (fun hb => ?_) (fun hb => ?_) <;> first | (exact absurd hb (by first | assumption | decide)) | (rw [hb]) | skip)
      | (refine Exists.intro ?_ ?_; focus (and_intros <;> first | omega | exact rfl | assumption | (intro _ hh; cases hh; done) | exact all_size (by rfl) | (simp; done) | decide))
      | (intro hfact)
      | (refine Drawn.mk (by kernel_rfl) (fun hfact => ?_)))
    all_goals (try (conv => whnf))
    refine Done.mk ⟨SV.bool_congr ?_, by kernel_rfl⟩ (by kernel_rfl)
    symm
    rw [decide_eq_false_iff_not, ← h2]
    exact anyH_nil k

end Go.Ab

