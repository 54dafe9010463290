/- One text of the proof whose last text says what is proved. -/
import Derived.Test.YtbpnhefkfamhaaaP1
set_option linter.unusedVariables false
set_option linter.unusedSimpArgs false
set_option maxRecDepth 100000
set_option maxHeartbeats 1000000
namespace Go.Ab
open Go.Proofs

abbrev sps (l : List Sp) : List I := l.map Sp.toI
theorem sps_size (l : List Sp) : ∀ u ∈ sps l, u.size = 2 := by
  intro u hu
  obtain ⟨e, _, rfl⟩ := List.mem_map.1 hu
  rfl
theorem sps_get {l : List Sp} {k : Nat} {e : Sp} (h : l[k]? = some e) : (sps l)[k]? = some e.toI := by simp [h]
theorem spec_u1 (s : Sp) : Fn Try.prog F_span_Union_1 [.v s.toI] (Is (.v (.bool (!decide (SpR s)))) [.no]) := by
  refine of_span_Union_1 ?_ (by simp)
  repeat' ((conv => whnf); first
    | (refine And.intro (fun hb => ?_) (fun hb => ?_) <;> first | (exact absurd hb (by first | assumption | decide)) | (rw [hb]) | skip)
    | (refine Exists.intro ?_ ?_; focus (and_intros <;> first | omega | exact rfl | assumption | (intro _ hh; cases hh; done) | exact all_size (by rfl) | (simp; done) | decide))
    | (intro hfact)
    | (refine Drawn.mk (by kernel_rfl) (fun hfact => ?_))
    | (refine CallWp.mk ⟨_, spec_sright _, ?_⟩; rintro _ _ ⟨rfl, rfl⟩))
  all_goals (try (conv => whnf))
  exact Done.mk ⟨rfl, by kernel_rfl⟩ (by kernel_rfl)
theorem spec_u2 (a b : Sp) : Fn Try.prog F_span_Union_2 [.v a.toI, .v b.toI] (Is (.v (.int .i64 (cmpS a.f b.f))) [.no, .no]) := by
  refine of_span_Union_2 ?_ (by simp)
  repeat' ((conv => whnf); first
    | (refine And.intro (fun hb => ?_) (fun hb => ?_) <;> first | (exact absurd hb (by first | assumption | decide)) | (rw [hb]) | skip)
    | (refine Exists.intro ?_ ?_; focus (and_intros <;> first | omega | exact rfl | assumption | (intro _ hh; cases hh; done) | exact all_size (by rfl) | (simp; done) | decide))
    | (intro hfact)
    | (refine Drawn.mk (by kernel_rfl) (fun hfact => ?_))
    | (refine CallWp.mk ⟨_, spec_compare _ _, ?_⟩; rintro _ _ ⟨rfl, rfl⟩))
  all_goals (try (conv => whnf))
  exact Done.mk ⟨rfl, by kernel_rfl⟩ (by kernel_rfl)
theorem spec_sclone (l : List Sp) (hl : l.length ≤ 1000000) : Fn Try.prog F_slices_Clone_L_api_Span_api_Span [.v (.list (sps l))] (Is (.vec 29 2 (sps l)) [.no]) := by
  refine ofv_slices_Clone_L_api_Span_api_Span ?_ (by simp)
  have h1 : (([] : List I).length + (sps l).length) * 32 ≤ 140737488355328 := by simp; omega
  have h2 : ([] : List I).length + (sps l).length ≤ maxLen := by simp [maxLen]; omega
  have h3 := sps_size l
  repeat' ((conv => whnf); first
    | (refine And.intro (fun hb => ?_) (fun hb => ?_) <;> first | (exact absurd hb (by first | assumption | decide)) | (rw [hb]) | skip)
    | (refine Exists.intro ?_ ?_; focus (and_intros <;> first | omega | exact rfl | assumption | (intro _ hh; cases hh; done) | exact all_size (by rfl) | (simp; done) | decide))
    | (intro hfact)
    | (refine Drawn.mk (by kernel_rfl) (fun hfact => ?_)))
  all_goals (try (conv => whnf))
  · refine Done.mk ⟨congrArg (fun l => SV.vec 29 2 l) ?_, by kernel_rfl⟩ (by kernel_rfl)
    simp_all
  · exact Done.mk ⟨congrArg (fun l => SV.vec 29 2 l) (List.nil_append _), by kernel_rfl⟩ (by kernel_rfl)

theorem hit_at {e sz : Nat} {l : List I} {n : Nat} {u : I} (h : l[n]? = some u) : (SV.vec e sz l).hit 0 [n] = some (n * sz + 0, .item u) := by
  have : u.sub [] = some (0, u) := by cases u <;> rfl
  simp [SV.hit, hitV, h, hitI, this]
def badB (s : Sp) : Bool := !decide (SpR s)
def idxF (p : Sp → Bool) : Nat → List Sp → Int
  | _, [] => -1
  | k, s :: r => if p s = true then k else idxF p (k + 1) r
theorem spec_index (l : List Sp) (hl : l.length ≤ 1000000) : Fn Try.prog F_slices_IndexFunc_L_api_Span_api_Span [.v (.list (sps l)), .v (.fn 29)] (Is (.v (.int .i64 (idxF badB 0 l))) [.no, .no]) := by
  refine of_slices_IndexFunc_L_api_Span_api_Span ?_ (by simp)
  have hmax : l.length ≤ maxLen := by simp only [maxLen]; omega
  repeat' ((conv => whnf); first
    | (refine And.intro (fun hb => ?_) (fun hb => ?_) <;> first | (exact absurd hb (by first | assumption | decide)) | (rw [hb]) | skip)
    | (refine Exists.intro ?_ ?_; focus (and_intros <;> first | omega | exact rfl | assumption | (intro _ hh; cases hh; done) | exact all_size (by rfl) | (simp; done) | decide))
    | (intro hfact)
    | (refine Drawn.mk (by kernel_rfl) (fun hfact => ?_)))
  all_goals (try (conv => whnf))
  refine LoopWq.by (X := Nat) (fun x => [(8, .v (.int .i64 x))]) (fun x => x ≤ l.length ∧ idxF badB x (l.drop x) = idxF badB 0 l) (fun x => l.length - x)
    0 (by kernel_rfl) ⟨Nat.zero_le _, rfl⟩ ?_
  rintro k ⟨h1, h2⟩
  by_cases hk : k < l.length
  · obtain ⟨e, he⟩ : ∃ e, l[k]? = some e := ⟨_, List.getElem?_eq_getElem hk⟩
    have hg : (sps l)[Int.toNat (k : Int)]? = some e.toI := sps_get he
    have hlt : ¬ decide ((k : Int) < ((sps l).length : Int)) = false := by simp [hk]
    have hkl : Int.toNat (k : Int) < (sps l).length := by simp [hk]
    have hke : l[k] = e := by rw [List.getElem?_eq_getElem hk] at he; simpa using he
    rw [List.drop_eq_getElem_cons hk, hke] at h2
    repeat' ((conv => whnf); first
      | (refine And.intro (fun hb => ?_) (fun hb => ?_) <;> first | (exact absurd hb (by first | assumption | decide)) | (rw [hb]) | skip)
      | (refine Exists.intro ?_ ?_; focus (and_intros <;> first | omega | exact rfl | assumption | (intro _ hh; cases hh; done) | exact all_size (by rfl) | (simp; done) | decide))
      | (intro hfact)
      | (refine Drawn.mk (by kernel_rfl) (fun hfact => ?_))
      | ((try dsimp only); rw [hg])
      | (refine CallWp.mk ⟨_, spec_u1 _, ?_⟩; rintro _ _ ⟨rfl, rfl⟩))
    all_goals (try (conv => whnf))
    · refine Done.mk ⟨congrArg (fun n => SV.v (.int .i64 n)) ?_, by kernel_rfl⟩ (by kernel_rfl)
      rw [← h2, idxF, if_pos (by assumption)]
    · refine Round.by (k + 1) ?_ ?_ ?_
      · rw [wrap_succ hk hmax]
        show norm _ _ = upd _ _
        kernel_rfl
      · refine ⟨hk, ?_⟩
        rw [← h2, idxF, if_neg (by have := hb; simp only [badB]; simp at this ⊢; exact this)]
      · show l.length - (k + 1) < l.length - k
        omega
  · have hlt : ¬ decide ((k : Int) < ((sps l).length : Int)) = true := by simp; omega
    repeat' ((conv => whnf); first
      | (refine And.intro (fun hb => ?_) (fun hb => ?_) <;> first | (exact absurd hb (by first | assumption | decide)) | (rw [hb]) | skip)
      | (refine Exists.intro ?_ ?_; focus (and_intros <;> first | omega | exact rfl | assumption | (intro _ hh; cases hh; done) | exact all_size (by rfl) | (simp; done) | decide))
      | (intro hfact)
      | (refine Drawn.mk (by kernel_rfl) (fun hfact => ?_)))
    all_goals (try (conv => whnf))
    refine Done.mk ⟨congrArg (fun n => SV.v (.int .i64 n)) ?_, by kernel_rfl⟩ (by kernel_rfl)
    rw [← h2, List.drop_eq_nil_of_le (by omega)]
    rfl
end Go.Ab


set_option maxRecDepth 100000
set_option maxHeartbeats 1000000
namespace Go.Ab
open Go.Proofs

theorem put_at {l : List I} {n : Nat} {y u : I} (h : l[n]? = some y) : putV l [n] u = l.set n u := by
  have : y.put [] u = u := by cases y <;> rfl
  simp [putV, h, this]
def goodB (s : Sp) : Bool := decide (SpR s)
theorem idxF_none : ∀ {l : List Sp} {k : Nat}, idxF badB k l = -1 → l.filter goodB = l
  | [], _, _ => rfl
  | s :: r, k, h => by
    unfold idxF at h
    split at h
    · omega
    · rename_i hs
      have hg : goodB s = true := by simpa [badB, goodB] using hs
      rw [List.filter_cons, if_pos hg, idxF_none h]
theorem idxF_some : ∀ {l : List Sp} {k : Nat}, idxF badB k l ≠ -1 → ∃ i : Nat, idxF badB k l = k + i ∧ i < l.length ∧ (l.take i).filter goodB = l.take i ∧ ∃ s, l[i]? = some s ∧ badB s = true
  | [], k, h => by simp [idxF] at h
  | s :: r, k, h => by
    unfold idxF at h ⊢
    split
    · rename_i hs
      exact ⟨0, by simp, by simp, rfl, s, rfl, hs⟩
    · rename_i hs
      rw [if_neg hs] at h
      obtain ⟨i, h1, h2, h3, h4⟩ := idxF_some h
      have hg : goodB s = true := by simpa [badB, goodB] using hs
      refine ⟨i + 1, by rw [h1]; simp; omega, by simpa using h2, ?_, by simpa using h4⟩
      rw [List.take_succ_cons, List.filter_cons, if_pos hg, h3]
theorem spec_delete (l : List Sp) (hl : l.length ≤ 1000000) : Fn Try.prog F_slices_DeleteFunc_L_api_Span_api_Span [.vec 29 2 (sps l), .v (.fn 29)] (Is (.vec 29 2 (sps (l.filter goodB))) [.no, .no]) := by
  refine ofv_slices_DeleteFunc_L_api_Span_api_Span ?_ (by simp)
  have hidx := spec_index l hl
  by_cases hn : idxF badB 0 l = -1
  · rw [hn] at hidx
    repeat' ((conv => whnf); first
      | (refine And.intro (fun hb => ?_) (fun hb => ?_) <;> first | (exact absurd hb (by first | assumption | decide)) | (rw [hb]) | skip)
      | (refine Exists.intro ?_ ?_; focus (and_intros <;> first | omega | exact rfl | assumption | (intro _ hh; cases hh; done) | exact all_size (by rfl) | (simp; done) | decide))
      | (intro hfact)
      | (refine Drawn.mk (by kernel_rfl) (fun hfact => ?_))
      | (refine CallWp.mk ⟨_, hidx, ?_⟩; rintro _ _ ⟨rfl, rfl⟩))
    all_goals (try (conv => whnf))
    exact Done.mk ⟨by rw [idxF_none hn], by kernel_rfl⟩ (by kernel_rfl)
  obtain ⟨i0, hi0, hlt0, hf0, b0, hb0, hbad0⟩ := idxF_some hn
  rw [hi0, show ((0 : Nat) : Int) + (i0 : Int) = (i0 : Int) from by omega] at hidx
  have n1 : ¬ decide ((i0 : Int) = -1) = true := by simp
  have hw0 : IntKind.i64.wrap ((i0 : Int) + 1) = ((i0 + 1 : Nat) : Int) := (wrap_id (by omega)).trans (by omega)
  repeat' ((conv => whnf); first
    | (refine And.intro (fun hb => ?_) (fun hb => ?_) <;> first | (exact absurd hb (by first | assumption | decide)) | (rw [hb]) | skip)
    | (refine Exists.intro ?_ ?_; focus (and_intros <;> first | omega | exact rfl | assumption | (intro _ hh; cases hh; done) | exact all_size (by rfl) | (simp; done) | decide))
    | (intro hfact)
    | (refine Drawn.mk (by kernel_rfl) (fun hfact => ?_))
    | (refine CallWp.mk ⟨_, hidx, ?_⟩; rintro _ _ ⟨rfl, rfl⟩)
    | ((try dsimp only); rw [hw0]))
  all_goals (try (conv => whnf))
  have hmax : l.length ≤ maxLen := by simp only [maxLen]; omega
  refine LoopWq.by (X := Nat × Nat × List Sp) (fun x => [(42, .vec 29 2 (sps x.2.2)), (5, .v (.int .i64 x.2.1)), (6, .v (.int .i64 x.1))])
    (fun x => x.2.1 < x.1 ∧ x.1 ≤ l.length ∧ x.2.2.length = l.length ∧ x.2.2.drop x.1 = l.drop x.1 ∧ x.2.2.take x.2.1 = (l.take x.1).filter goodB) (fun x => l.length - x.1)
    (i0 + 1, i0, l) (by kernel_rfl) ⟨Nat.lt_succ_self _, hlt0, rfl, rfl, by
      have hbg : ¬ goodB b0 = true := by simpa [badB, goodB] using hbad0
      rw [List.take_add_one, hb0, List.filter_append, hf0]
      simp [hbg]⟩ ?_
  rintro ⟨j, i, c⟩ ⟨h1, h2, h3, h4, h5⟩
  dsimp only at h1 h2 h3 h4 h5 ⊢
  by_cases hj : j < l.length
  case neg =>
    have hlt : ¬ decide ((j : Int) < ((sps c).length : Int)) = true := by simp; omega
    have hle : (i : Int) ≤ ((sps c).length : Int) := by simp; omega
    have hle0 : Int.toNat (i : Int) ≤ (sps c).length := by simp; omega
    rw [show l.take j = l from List.take_of_length_le (by omega)] at h5
    have hle2 : (i : Int) ≤ (((sps c).take (i : Int).toNat ++ List.replicate ((sps c).length - (i : Int).toNat) (I.agg [I.str [], I.str []])).length : Int) := by
      simp only [List.length_append, List.length_take, List.length_replicate, List.length_map]; omega
    repeat' ((conv => whnf); first
      | (refine And.intro (fun hb => ?_) (fun hb => ?_) <;> first | (exact absurd hb (by first | assumption | decide)) | (rw [hb]) | skip)
      | (refine Exists.intro ?_ ?_; focus (and_intros <;> first | omega | exact rfl | assumption | (intro _ hh; cases hh; done) | exact all_size (by rfl) | (simp; done) | decide))
      | (intro hfact)
      | (refine Drawn.mk (by kernel_rfl) (fun hfact => ?_)))
    all_goals (try (conv => whnf))
    refine Done.mk ⟨congrArg (fun l => SV.vec 29 2 l) ?_, by kernel_rfl⟩ (by kernel_rfl)
    rw [← h5, Int.toNat_natCast, List.take_append_of_le_length (by simp; omega), List.take_take, Nat.min_self]
    simp [sps]
  obtain ⟨e, he⟩ : ∃ e, l[j]? = some e := ⟨_, List.getElem?_eq_getElem hj⟩
  have hce : c[j]? = some e := by
    have := congrArg (fun q => q[0]?) h4
    simp only [List.getElem?_drop, Nat.add_zero] at this
    rw [this, he]
  have hlt : ¬ decide ((j : Int) < ((sps c).length : Int)) = false := by simp; omega
  have hgc : (sps c)[Int.toNat (j : Int)]? = some e.toI := sps_get hce
  have hh := hit_at (e := 29) (sz := 2) hgc
  have hkl : Int.toNat (j : Int) < (sps c).length := by simp; omega
  have hki : Int.toNat (i : Int) < (sps c).length := by simp; omega
  obtain ⟨y, hy⟩ : ∃ y, c[i]? = some y := ⟨_, List.getElem?_eq_getElem (by omega)⟩
  have hgi : (sps c)[Int.toNat (i : Int)]? = some y.toI := sps_get hy
  have hhi := hit_at (e := 29) (sz := 2) hgi
  have hround : l.length - (j + 1) < l.length - j := by omega
  have hwj : IntKind.i64.wrap ((j : Int) + 1) = ((j + 1 : Nat) : Int) := (wrap_id (by omega)).trans (by omega)
  have hwi : IntKind.i64.wrap ((i : Int) + 1) = ((i + 1 : Nat) : Int) := (wrap_id (by omega)).trans (by omega)
  have htk : (l.take (j + 1)).filter goodB = (l.take j).filter goodB ++ [e].filter goodB := by rw [List.take_add_one, he, List.filter_append]; rfl
  by_cases hr : SpR e
  · have n2 : ¬ (!(!decide (SpR e))) = false := by simp [hr]
    have hg2 : goodB e = true := by simp [goodB, hr]
    repeat' ((conv => whnf); first
      | (refine And.intro (fun hb => ?_) (fun hb => ?_) <;> first | (exact absurd hb (by first | assumption | decide)) | (rw [hb]) | skip)
      | (refine Exists.intro ?_ ?_; focus (and_intros <;> first | omega | exact rfl | assumption | (intro _ hh; cases hh; done) | exact all_size (by rfl) | (simp; done) | decide))
      | (intro hfact)
      | (refine Drawn.mk (by kernel_rfl) (fun hfact => ?_))
      | ((try dsimp only); rw [hh])
      | ((try dsimp only); rw [hhi])
      | (refine CallWp.mk ⟨_, spec_u1 _, ?_⟩; rintro _ _ ⟨rfl, rfl⟩))
    all_goals (try (conv => whnf))
    refine Round.by (j + 1, i + 1, c.set i e) ?_ ⟨by dsimp only; omega, hj, by simp [h3], ?_, ?_⟩ hround
    · have hput : sps (c.set i e) = putV (sps c) [Int.toNat (i : Int)] ((I.agg [I.str [], I.str []]).put [] e.toI) := by
        rw [put_at hgi, Int.toNat_natCast]
        simp only [sps, List.map_set]
        rfl
      dsimp only
      rw [hwj, hwi, hput]
      show norm _ _ = upd _ _
      kernel_rfl
    · dsimp only
      have := congrArg (List.drop 1) h4
      rw [List.drop_set_of_lt (by omega)]
      simpa [List.drop_drop] using this
    · dsimp only
      rw [htk, ← h5, List.take_add_one, List.getElem?_set_self (by omega), List.take_set_of_le (by omega)]
      simp [hg2]
  · have n2 : ¬ (!(!decide (SpR e))) = true := by simp [hr]
    have hg2 : ¬ goodB e = true := by simp [goodB, hr]
    repeat' ((conv => whnf); first
      | (refine And.intro (fun hb => ?_) (fun hb => ?_) <;> first | (exact absurd hb (by first | assumption | decide)) | (rw [hb]) | skip)
      | (refine Exists.intro ?_ ?_; focus (and_intros <;> first | omega | exact rfl | assumption | (intro _ hh; cases hh; done) | exact all_size (by rfl) | (simp; done) | decide))
      | (intro hfact)
      | (refine Drawn.mk (by kernel_rfl) (fun hfact => ?_))
      | ((try dsimp only); rw [hh])
      | ((try dsimp only); rw [hhi])
      | (refine CallWp.mk ⟨_, spec_u1 _, ?_⟩; rintro _ _ ⟨rfl, rfl⟩))
    all_goals (try (conv => whnf))
    refine Round.by (j + 1, i, c) ?_ ⟨by dsimp only; omega, hj, h3, ?_, ?_⟩ hround
    · rw [hwj]
      show norm _ _ = upd _ _
      kernel_rfl
    · have := congrArg (List.drop 1) h4
      simpa [List.drop_drop] using this
    · rw [htk, h5]
      simp [hg2]
end Go.Ab

