/- One text of the proof whose last text says what is proved. -/
import Derived.Test.YtbpnhefkfamhaaaP2
set_option linter.unusedVariables false
set_option linter.unusedSimpArgs false
set_option maxRecDepth 100000
set_option maxHeartbeats 1000000
namespace Go.Ab
open Go.Proofs

theorem put_at {l : List I} {n : Nat} {y u : I} (h : l[n]? = some y) : putV l [n] u = l.set n u := by
  have : y.put [] u = u := by cases y <;> rfl
  simp [putV, h, this]
def goodB (s : Sp) : Bool := decide (SpR s)
theorem idxF_none : ∀ {l : List Sp} {k : Nat}, idxF badB k l = -1 → l.filter goodB = l
  | [], _, _ => rfl
  | s :: r, k, h => by
    unfold idxF at h
    split at h
    · omega
    · rename_i hs
      have hg : goodB s = true := by simpa [badB, goodB] using hs
      rw [List.filter_cons, if_pos hg, idxF_none h]
theorem idxF_some : ∀ {l : List Sp} {k : Nat}, idxF badB k l ≠ -1 → ∃ i : Nat, idxF badB k l = k + i ∧ i < l.length ∧ (l.take i).filter goodB = l.take i ∧ ∃ s, l[i]? = some s ∧ badB s = true
  | [], k, h => by simp [idxF] at h
  | s :: r, k, h => by
    unfold idxF at h ⊢
    split
    · rename_i hs
      exact ⟨0, by simp, by simp, rfl, s, rfl, hs⟩
    · rename_i hs
      rw [if_neg hs] at h
      obtain ⟨i, h1, h2, h3, h4⟩ := idxF_some h
      have hg : goodB s = true := by simpa [badB, goodB] using hs
      refine ⟨i + 1, by rw [h1]; simp; omega, by simpa using h2, ?_, by simpa using h4⟩
      rw [List.take_succ_cons, List.filter_cons, if_pos hg, h3]
theorem spec_delete (l : List Sp) (hl : l.length ≤ 1000000) : Fn Try.prog F_slices_DeleteFunc_L_api_Span_api_Span [.vec 29 2 (sps l), .v (.fn 29)] (Is (.vec 29 2 (sps (l.filter goodB))) [.no, .no]) := by
  refine ofv_slices_DeleteFunc_L_api_Span_api_Span ?_ (by simp)
  have hidx := spec_index l hl
  by_cases hn : idxF badB 0 l = -1
  · rw [hn] at hidx
    repeat' ((conv => whnf); first
      | (refine And.intro (fun hb => ?_) (fun hb => ?_) <;> first | (exact absurd hb (by first | assumption | decide)) | (rw [hb]) | skip)
      | (refine Exists.intro ?_ ?_; focus (and_intros <;> first | omega | exact rfl | assumption | (intro _ hh; cases hh; done) | exact all_size (by rfl) | (simp; done) | decide))
      | (intro hfact)
      | (refine Drawn.mk (by kernel_rfl) (fun hfact => ?_))
      | (refine CallWp.mk ⟨_, hidx, ?_⟩; rintro _ _ ⟨rfl, rfl⟩))
    all_goals (try (conv => whnf))
    exact Done.mk ⟨by rw [idxF_none hn], by kernel_rfl⟩ (by kernel_rfl)
  obtain ⟨i0, hi0, hlt0, hf0, b0, hb0, hbad0⟩ := idxF_some hn
  rw [hi0, show ((0 : Nat) : Int) + (i0 : Int) = (i0 : Int) from by omega] at hidx
  have n1 : ¬ decide ((i0 : Int) = -1) = true := by simp
  have hw0 : IntKind.i64.wrap ((i0 : Int) + 1) = ((i0 + 1 : Nat) : Int) := (wrap_id (by omega)).trans (by omega)
  repeat' ((conv => whnf); first
    | (refine And.intro (fun hb => ?_) (fun hb => ?_) <;> first | (exact absurd hb (by first | assumption | decide)) | (rw [hb]) | skip)
    | (refine Exists.intro ?_ ?_; focus (and_intros <;> first | omega | exact rfl | assumption | (intro _ hh; cases hh; done) | exact all_size (by rfl) | (simp; done) | decide))
    | (intro hfact)
    | (refine Drawn.mk (by kernel_rfl) (fun hfact => ?_))
    | (refine CallWp.mk ⟨_, hidx, ?_⟩; rintro _ _ ⟨rfl, rfl⟩)
    | ((try dsimp only); rw [hw0]))
  all_goals (try (conv => whnf))
  have hmax : l.length ≤ maxLen := by simp only [maxLen]; omega
  refine LoopWq.by (X := Nat × Nat × List Sp) (fun x => [(42, .vec 29 2 (sps x.2.2)), (5, .v (.int .i64 x.2.1)), (6, .v (.int .i64 x.1))])
    (fun x => x.2.1 < x.1 ∧ x.1 ≤ l.length ∧ x.2.2.length = l.length ∧ x.2.2.drop x.1 = l.drop x.1 ∧ x.2.2.take x.2.1 = (l.take x.1).filter goodB) (fun x => l.length - x.1)
    (i0 + 1, i0, l) (by kernel_rfl) ⟨Nat.lt_succ_self _, hlt0, rfl, rfl, by
      have hbg : ¬ goodB b0 = true := by simpa [badB, goodB] using hbad0
      rw [List.take_add_one, hb0, List.filter_append, hf0]
      simp [hbg]⟩ ?_
  rintro ⟨j, i, c⟩ ⟨h1, h2, h3, h4, h5⟩
  dsimp only at h1 h2 h3 h4 h5 ⊢
  by_cases hj : j < l.length
  case neg =>
    have hlt : ¬ decide ((j : Int) < ((sps c).length : Int)) = true := by simp; omega
    have hle : (i : Int) ≤ ((sps c).length : Int) := by simp; omega
    have hle0 : Int.toNat (i : Int) ≤ (sps c).length := by simp; omega
    rw [show l.take j = l from List.take_of_length_le (by omega)] at h5
    have hle2 : (i : Int) ≤ (((sps c).take (i : Int).toNat ++ List.replicate ((sps c).length - (i : Int).toNat) (I.agg [I.str [], I.str []])).length : Int) := by
      simp only [List.length_append, List.length_take, List.length_replicate, List.length_map]; omega
    repeat' ((conv => whnf); first
      | (refine And.intro (fun hb => ?_) (fun hb => ?_) <;> first | (exact absurd hb (by first | assumption | decide)) | (rw [hb]) | skip)
      | (refine Exists.intro ?_ ?_; focus (and_intros <;> first | omega | exact rfl | assumption | (intro _ hh; cases hh; done) | exact all_size (by rfl) | (simp; done) | decide))
      | (intro hfact)
      | (refine Drawn.mk (by kernel_rfl) (fun hfact => ?_)))
    all_goals (try (conv => whnf))
    refine Done.mk ⟨congrArg (fun l => SV.vec 29 2 l) ?_, by kernel_rfl⟩ (by kernel_rfl)
    rw [← h5, Int.toNat_natCast, List.take_append_of_le_length (by simp; omega), List.take_take, Nat.min_self]
    simp [sps]
  obtain ⟨e, he⟩ : ∃ e, l[j]? = some e := ⟨_, List.getElem?_eq_getElem hj⟩
  have hce : c[j]? = some e := by
    have := congrArg (fun q => q[0]?) h4
    simp only [List.getElem?_drop, Nat.add_zero] at this
    rw [this, he]
  have hlt : ¬ decide ((j : Int) < ((sps c).length : Int)) = false := by simp; omega
  have hgc : (sps c)[Int.toNat (j : Int)]? = some e.toI := sps_get hce
  have hh := hit_at (e := 29) (sz := 2) hgc
  have hkl : Int.toNat (j : Int) < (sps c).length := by simp; omega
  have hki : Int.toNat (i : Int) < (sps c).length := by simp; omega
  obtain ⟨y, hy⟩ : ∃ y, c[i]? = some y := ⟨_, List.getElem?_eq_getElem (by omega)⟩
  have hgi : (sps c)[Int.toNat (i : Int)]? = some y.toI := sps_get hy
  have hhi := hit_at (e := 29) (sz := 2) hgi
  have hround : l.length - (j + 1) < l.length - j := by omega
  have hwj : IntKind.i64.wrap ((j : Int) + 1) = ((j + 1 : Nat) : Int) := (wrap_id (by omega)).trans (by omega)
  have hwi : IntKind.i64.wrap ((i : Int) + 1) = ((i + 1 : Nat) : Int) := (wrap_id (by omega)).trans (by omega)
  have htk : (l.take (j + 1)).filter goodB = (l.take j).filter goodB ++ [e].filter goodB := by rw [List.take_add_one, he, List.filter_append]; rfl
  by_cases hr : SpR e
  · have n2 : ¬ (!(!decide (SpR e))) = false := by simp [hr]
    have hg2 : goodB e = true := by simp [goodB, hr]
    repeat' ((conv => whnf); first
      | (refine And.intro (fun hb => ?_) (fun hb => ?_) <;> first | (exact absurd hb (by first | assumption | decide)) | (rw [hb]) | skip)
      | (refine Exists.intro ?_ ?_; focus (and_intros <;> first | omega | exact rfl | assumption | (intro _ hh; cases hh; done) | exact all_size (by rfl) | (simp; done) | decide))
      | (intro hfact)
      | (refine Drawn.mk (by kernel_rfl) (fun hfact => ?_))
      | ((try dsimp only); rw [hh])
      | ((try dsimp only); rw [hhi])
      | (refine CallWp.mk ⟨_, spec_u1 _, ?_⟩; rintro _ _ ⟨rfl, rfl⟩))
    all_goals (try (conv => whnf))
    refine Round.by (j + 1, i + 1, c.set i e) ?_ ⟨by dsimp only; omega, hj, by simp [h3], ?_, ?_⟩ hround
    · have hput : sps (c.set i e) = putV (sps c) [Int.toNat (i : Int)] ((I.agg [I.str [], I.str []]).put [] e.toI) := by
        rw [put_at hgi, Int.toNat_natCast]
        simp only [sps, List.map_set]
        rfl
      dsimp only
      rw [hwj, hwi, hput]
      show norm _ _ = upd _ _
      kernel_rfl
    · dsimp only
      have := congrArg (List.drop 1) h4
      rw [List.drop_set_of_lt (by omega)]
      simpa [List.drop_drop] using this
    · dsimp only
      rw [htk, ← h5, List.take_add_one, List.getElem?_set_self (by omega), List.take_set_of_le (by omega)]
      simp [hg2]
  · have n2 : ¬ (!(!decide (SpR e))) = true := by simp [hr]
    have hg2 : ¬ goodB e = true := by simp [goodB, hr]
    repeat' ((conv => whnf); first
      | (refine And.intro (fun hb => ?_) (fun hb => ?_) <;> first | (exact absurd hb (by first | assumption | decide)) | (rw [hb]) | skip)
      | (refine Exists.intro ?_ ?_; focus (and_intros <;> first | omega | exact rfl | assumption | (intro _ hh; cases hh; done) | exact all_size (by rfl) | (simp; done) | decide))
      | (intro hfact)
      | (refine Drawn.mk (by kernel_rfl) (fun hfact => ?_))
      | ((try dsimp only); rw [hh])
      | ((try dsimp only); rw [hhi])
      | (refine CallWp.mk ⟨_, spec_u1 _, ?_⟩; rintro _ _ ⟨rfl, rfl⟩))
    all_goals (try (conv => whnf))
    refine Round.by (j + 1, i, c) ?_ ⟨by dsimp only; omega, hj, h3, ?_, ?_⟩ hround
    · rw [hwj]
      show norm _ _ = upd _ _
      kernel_rfl
    · have := congrArg (List.drop 1) h4
      simpa [List.drop_drop] using this
    · rw [htk, h5]
      simp [hg2]
end Go.Ab

