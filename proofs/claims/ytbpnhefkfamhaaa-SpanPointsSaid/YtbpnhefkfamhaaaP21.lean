/- One text of the proof whose last text says what is proved. -/
import Derived.Test.YtbpnhefkfamhaaaP20
set_option linter.unusedVariables false
set_option linter.unusedSimpArgs false
set_option maxRecDepth 100000
set_option maxHeartbeats 4000000
namespace Go.Ab
open Go.Proofs

def hasB (k : Str) (x : Sp) : Bool := decide (SpR x) && decide (SpH x k)
def cntH (l : List Sp) (k : Str) : Nat := l.countP (hasB k)
theorem cntH_pos (l : List Sp) (k : Str) : 0 < cntH l k ↔ AnyH l k := by
  unfold cntH AnyH
  rw [List.countP_pos_iff]
  simp [hasB]
theorem spec_points1 (l : List Sp) (k : Str) (hl : l.length ≤ 1000000) : Fn Try.prog F_exchequerlaw05_SpanPoints_1 [.v (.list (sps l)), .rp (.str k)] (Is (.v (.bool (decide (AnyH l k)))) [.no, .no]) := by
  refine of_exchequerlaw05_SpanPoints_1 ?_ (by simp)
  have hmax : l.length ≤ maxLen := by simp only [maxLen]; omega
  repeat' ((conv => whnf); first
    | (refine And.intro (fun hb => ?_) (fun hb => ?_) <;> first | (exact absurd hb (by first | assumption | decide)) | (rw [hb]) | skip)
    | (refine Exists.intro ?_ ?_; focus (and_intros <;> first | omega | exact rfl | assumption | (intro _ hh; cases hh; done) | exact all_size (by rfl) | (simp; done) | decide))
    | (intro hfact)
    | (refine Drawn.mk (by kernel_rfl) (fun hfact => ?_)))
  all_goals (try (conv => whnf))
  refine LoopWq.by (X := Nat × Nat) (fun x => [(4, .v (.int .i64 x.2)), (8, .v (.int .i64 x.1))]) (fun x => x.1 ≤ l.length ∧ x.2 = cntH (l.take x.1) k) (fun x => l.length - x.1)
    (0, 0) (by kernel_rfl) ⟨Nat.zero_le _, rfl⟩ ?_
  rintro ⟨i, n⟩ ⟨h1, h2⟩
  dsimp only at h1 h2 ⊢
  have hni : n ≤ i := by
    rw [h2]
    refine Nat.le_trans List.countP_le_length ?_
    rw [List.length_take]
    omega
  by_cases hk : i < l.length
  case neg =>
    have hlt : ¬ decide ((i : Int) < ((sps l).length : Int)) = true := by simp; omega
    rw [show l.take i = l from List.take_of_length_le (by omega)] at h2
    repeat' ((conv => whnf); first
      | (refine And.intro (fun hb => ?_) (fun hb => ?_) <;> first | (exact absurd hb (by first | assumption | decide)) | (rw [hb]) | skip)
      | (refine Exists.intro ?_ ?_; focus (and_intros <;> first | omega | exact rfl | assumption | (intro _ hh; cases hh; done) | exact all_size (by rfl) | (simp; done) | decide))
      | (intro hfact)
      | (refine Drawn.mk (by kernel_rfl) (fun hfact => ?_)))
    all_goals (try (conv => whnf))
    refine Done.mk ⟨SV.bool_congr ?_, by kernel_rfl⟩ (by kernel_rfl)
    rw [decide_eq_decide, ← cntH_pos, h2]
    omega
  obtain ⟨e, he⟩ : ∃ e, l[i]? = some e := ⟨_, List.getElem?_eq_getElem hk⟩
  have hg : (sps l)[Int.toNat (i : Int)]? = some e.toI := sps_get he
  have hlt : ¬ decide ((i : Int) < ((sps l).length : Int)) = false := by simp [hk]
  have hround : l.length - (i + 1) < l.length - i := by omega
  have hsucc : cntH (l.take (i + 1)) k = n + if hasB k e then 1 else 0 := by
    unfold cntH at h2 ⊢
    rw [List.take_add_one, he, List.countP_append, ← h2]
    simp [List.countP_cons]
  by_cases c1 : SpR e
  case neg =>
    have g1 : ¬ decide (SpR e) = true := by simp [c1]
    repeat' ((conv => whnf); first
      | (refine And.intro (fun hb => ?_) (fun hb => ?_) <;> first | (exact absurd hb (by first | assumption | decide)) | (rw [hb]) | skip)
      | (refine Exists.intro ?_ ?_; focus (and_intros <;> first | omega | exact rfl | assumption | (intro _ hh; cases hh; done) | exact all_size (by rfl) | (simp; done) | decide))
      | (intro hfact)
      | (refine Drawn.mk (by kernel_rfl) (fun hfact => ?_))
      | ((try dsimp only); rw [hg])
      | (refine CallIs.mk ⟨_, _, spec_sright _, ?_⟩)
      | (refine CallIs.mk ⟨_, _, spec_shas _ _, ?_⟩))
    all_goals (try (conv => whnf))
    refine Round.by (i + 1, n) ?_ ⟨hk, by rw [hsucc]; simp [hasB, c1]⟩ hround
    rw [wrap_succ hk hmax]
    show norm _ _ = upd _ _
    kernel_rfl
  have g1 : ¬ decide (SpR e) = false := by simp [c1]
  by_cases c2 : SpH e k
  case neg =>
    have g2 : ¬ decide (SpH e k) = true := by simp [c2]
    repeat' ((conv => whnf); first
      | (refine And.intro (fun hb => ?_) (fun hb => ?_) <;> first | (exact absurd hb (by first | assumption | decide)) | (rw [hb]) | skip)
      | (refine Exists.intro ?_ ?_; focus (and_intros <;> first | omega | exact rfl | assumption | (intro _ hh; cases hh; done) | exact all_size (by rfl) | (simp; done) | decide))
      | (intro hfact)
      | (refine Drawn.mk (by kernel_rfl) (fun hfact => ?_))
      | ((try dsimp only); rw [hg])
      | (refine CallIs.mk ⟨_, _, spec_sright _, ?_⟩)
      | (refine CallIs.mk ⟨_, _, spec_shas _ _, ?_⟩))
    all_goals (try (conv => whnf))
    refine Round.by (i + 1, n) ?_ ⟨hk, by rw [hsucc]; simp [hasB, c2]⟩ hround
    rw [wrap_succ hk hmax]
    show norm _ _ = upd _ _
    kernel_rfl
  have g2 : ¬ decide (SpH e k) = false := by simp [c2]
  repeat' ((conv => whnf); first
    | (refine And.intro (fun hb => ?_) (fun hb => ?_) <;> first | (exact absurd hb (by first | assumption | decide)) | (rw [hb]) | skip)
    | (refine Exists.intro ?_ ?_; focus (and_intros <;> first | omega | exact rfl | assumption | (intro _ hh; cases hh; done) | exact all_size (by rfl) | (simp; done) | decide))
    | (intro hfact)
    | (refine Drawn.mk (by kernel_rfl) (fun hfact => ?_))
    | ((try dsimp only); rw [hg])
    | (refine CallIs.mk ⟨_, _, spec_sright _, ?_⟩)
    | (refine CallIs.mk ⟨_, _, spec_shas _ _, ?_⟩))
  all_goals (try (conv => whnf))
  refine Round.by (i + 1, n + 1) ?_ ⟨hk, by rw [hsucc]; simp [hasB, c1, c2]⟩ hround
  rw [wrap_succ hk hmax, wrap_succ (Nat.lt_of_le_of_lt hni hk) hmax]
  show norm _ _ = upd _ _
  kernel_rfl
theorem law_spoints (l : List Sp) (s : Sp) (k : Str) (hl0 : l.length * 32 ≤ 140737488351232) : Fn Try.prog F_exchequerlaw05_SpanPoints [.v (.list (sps l)), .v s.toI, .v (.str k)] (Is (.v (.bool true)) [.no, .no, .no]) := by
  refine of_exchequerlaw05_SpanPoints ?_ (by simp)
  have haw := spec_awakeS sortNil
  have hgr := spec_greatS (s :: l) [k]
  have b1 : ([s.toI].length + (sps l).length) * 32 ≤ 140737488355328 := by rw [List.length_map]; show (1 + l.length) * 32 ≤ _; omega
  have b2 : [s.toI].length + (sps l).length ≤ maxLen := by rw [List.length_map]; show 1 + l.length ≤ 9223372036854775807; omega
  have b3 := sps_size l
  by_cases hg : (greatS 0 (s :: l) || greatT [k]) = true
  · rw [hg] at hgr
    repeat' ((conv => whnf); first
      | (refine And.intro (fun hb => ?_) (fun hb => ?_) <;> first | (exact absurd hb (by first | assumption | decide)) | (rw [hb]) | skip)
      | (refine Exists.intro ?_ ?_; focus (and_intros <;> first | omega | exact rfl | assumption | (intro _ hh; cases hh; done) | exact all_size (by rfl) | (simp; done) | decide))
      | (intro hfact)
      | (refine Drawn.mk (by kernel_rfl) (fun hfact => ?_))
      | (refine CallWp.mk ⟨_, haw, ?_⟩; rintro _ _ ⟨rfl, rfl⟩)
      | (refine CallIs.mk ⟨_, _, hgr, ?_⟩))
    all_goals (try (conv => whnf))
    exact Done.mk ⟨rfl, by kernel_rfl⟩ (by kernel_rfl)
  · have hg' : (greatS 0 (s :: l) || greatT [k]) = false := by simpa using hg
    rw [hg'] at hgr
    have hl := (greatS_no (Bool.or_eq_false_iff.1 hg').1).1
    rw [List.length_cons] at hl
    have hml := minus_length l s
    have hul := uni_length l
    have hm := spec_minus l s (by omega)
    have hu := spec_union sortNil l (by omega)
    have p1 := spec_points1 l k (by omega)
    have p2 := spec_points1 (uni l) k (by omega)
    have p3 := spec_points1 (minus l s) k (by omega)
    have e1 : AnyH (uni l) k ↔ AnyH l k := by rw [right_any uni_right, uni_keys]
    have e2 : AnyH (minus l s) k ↔ AnyH l k ∧ ¬ (SpR s ∧ SpH s k) := by rw [right_any (minus_right l s), minus_keys]
    rw [show decide (AnyH (uni l) k) = decide (AnyH l k) from decide_eq_decide.2 e1] at p2
    by_cases a1 : AnyH l k <;> by_cases a2 : SpR s <;> by_cases a3 : SpH s k
    all_goals (
      have a4 : decide (AnyH (minus l s) k) = (decide (AnyH l k) && !(decide (SpR s) && decide (SpH s k))) := by rw [Bool.eq_iff_iff, decide_eq_true_iff, e2]; simp [a1, a2, a3]
      simp only [a1, a2, a3, decide_true, decide_false] at a4
      rw [a4] at p3
      simp only [a1, decide_true, decide_false] at p1 p2
      have hr := spec_sright s
      have hh := spec_shas s k
      simp only [a2, a3, decide_true, decide_false] at hr hh
      repeat' ((conv => whnf); first
        | (refine And.intro (fun hb => ?_) (fun hb => ?_) <;> first | (exact absurd hb (by first | assumption | decide)) | (rw [hb]) | skip)
        | (refine Exists.intro ?_ ?_; focus (and_intros <;> first | omega | exact rfl | assumption | (intro _ hh; cases hh; done) | exact all_size (by rfl) | (simp; done) | decide))
        | (intro hfact)
        | (refine Drawn.mk (by kernel_rfl) (fun hfact => ?_))
        | (refine CallWp.mk ⟨_, haw, ?_⟩; rintro _ _ ⟨rfl, rfl⟩)
        | (refine CallIs.mk ⟨_, _, hgr, ?_⟩)
        | (refine CallWp.mk ⟨_, hr, ?_⟩; rintro _ _ ⟨rfl, rfl⟩)
        | (refine CallWp.mk ⟨_, hh, ?_⟩; rintro _ _ ⟨rfl, rfl⟩)
        | (refine CallWp.mk ⟨_, hu, ?_⟩; rintro _ _ ⟨rfl, rfl⟩)
        | (refine CallWp.mk ⟨_, hm, ?_⟩; rintro _ _ ⟨rfl, rfl⟩)
        | (refine CallWp.mk ⟨_, p1, ?_⟩; rintro _ _ ⟨rfl, rfl⟩)
        | (refine CallWp.mk ⟨_, p2, ?_⟩; rintro _ _ ⟨rfl, rfl⟩)
        | (refine CallWp.mk ⟨_, p3, ?_⟩; rintro _ _ ⟨rfl, rfl⟩))
      all_goals (try (conv => whnf))
      exact Done.mk ⟨rfl, by kernel_rfl⟩ (by kernel_rfl))
end Go.Ab

