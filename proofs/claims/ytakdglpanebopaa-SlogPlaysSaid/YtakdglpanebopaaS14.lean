/- One text of the proof whose last text says what is proved. -/
import Derived.Test.YtakdglpanebopaaS13
set_option linter.unusedVariables false
set_option linter.unusedSimpArgs false
set_option maxRecDepth 100000
set_option maxHeartbeats 1000000
namespace Go.Ab
open Go.Proofs

theorem spec_cut_ok {ix tm : Int} {es : List Ent} {i : Int} (h : Right ix tm es) (hc : (termAt ix tm es i).2 = true) : Fn Try.prog F_slog_Log_Cut [.v (logI ix tm es), .v (.int .i64 i)]
    (Is (.tup [.i (logI i (termAt ix tm es i).1 (es.drop (i - ix).toNat)), .i (.bool true)]) [.no, .no]) := by
  have := spec_cut ix tm es i h
  rwa [if_pos hc] at this
theorem spec_cut_no {ix tm : Int} {es : List Ent} {i : Int} (h : Right ix tm es) (hc : ¬ (termAt ix tm es i).2 = true) : Fn Try.prog F_slog_Log_Cut [.v (logI ix tm es), .v (.int .i64 i)]
    (Is (.tup [.i (logI ix tm es), .i (.bool false)]) [.no, .no]) := by
  have := spec_cut ix tm es i h
  rwa [if_neg hc] at this
theorem right00 : Right 0 0 [] := right_spec (by kernel_rfl)
theorem spec_same_yes {a b : List Ent} (h : a = b) : Fn Try.prog F_exchequerref11_Same [.v (.list (a.map Ent.toI)), .v (.list (b.map Ent.toI))] (Is (.v (.bool true)) [.no, .no]) := by
  have := spec_same a b
  rwa [decide_eq_true h] at this
/-- What Put makes of what comes behind the last one. -/
theorem spec_put_last (hgrow : GrowOk) {ix tm : Int} {es m : List Ent} (h : Right ix tm es) (hm : ∀ e ∈ m, i64r e.i) (hl : m.length ≤ 100000) (hc : fitsAt (lastOf ix tm es).1 0 (lastOf ix tm es).2 m = true ∧ right ix tm (es ++ m) = true) :
    Fn Try.prog F_slog_Log_Put [.v (logI ix tm es), .v (.int .i64 (lastOf ix tm es).1), .v (.int .i64 (lastOf ix tm es).2), .v (.list (m.map Ent.toI))]
      (Is (.tup [.i (logI ix tm (es ++ m)), .i (.int .i64 ((lastOf ix tm es).1 + m.length)), .i (.bool true)]) [.no, .no, .no, .no]) := by
  have := spec_put hgrow ix tm es (lastOf ix tm es).1 (lastOf ix tm es).2 m h hm hl
  rwa [putM_last h hm hl, if_pos hc] at this
theorem spec_put_not (hgrow : GrowOk) {ix tm : Int} {es m : List Ent} (h : Right ix tm es) (hm : ∀ e ∈ m, i64r e.i) (hl : m.length ≤ 100000) (hc : ¬ (fitsAt (lastOf ix tm es).1 0 (lastOf ix tm es).2 m = true ∧ right ix tm (es ++ m) = true)) :
    Fn Try.prog F_slog_Log_Put [.v (logI ix tm es), .v (.int .i64 (lastOf ix tm es).1), .v (.int .i64 (lastOf ix tm es).2), .v (.list (m.map Ent.toI))]
      (Is (.tup [.i (logI ix tm es), .i (.int .i64 0), .i (.bool false)]) [.no, .no, .no, .no]) := by
  have := spec_put hgrow ix tm es (lastOf ix tm es).1 (lastOf ix tm es).2 m h hm hl
  rwa [putM_last h hm hl, if_neg hc] at this

theorem law_cuts (hgrow : GrowOk) (l m : List Ent) (i : Int) (hm : ∀ e ∈ m, i64r e.i) : Fn Try.prog F_exchequerlaw11_SlogCuts [.v (.list (l.map Ent.toI)), .v (.int .i64 i), .v (.list (m.map Ent.toI))] (Is (.v (.bool true)) [.no, .no, .no]) := by
  refine of_exchequerlaw11_SlogCuts ?_ (by simp)
  have haw := spec_awake hgrow
  by_cases hg1 : greatAt 0 l = true
  · have n1 : ¬ greatAt 0 l = false := by simp [hg1]
    repeat' ((conv => whnf); first
      | (refine And.intro (fun hb => ?_) (fun hb => ?_) <;> first | (exact absurd hb (by first | assumption | decide)) | (rw [hb]) | skip)
      | (refine Exists.intro ?_ ?_; focus (and_intros <;> first | omega | exact rfl | assumption | (intro _ hh; cases hh; done) | exact all_size (by rfl) | (simp; done) | decide))
      | (intro hfact)
      | (refine Drawn.mk (by kernel_rfl) (fun hfact => ?_))
      | (refine CallWp.mk ⟨_, haw, ?_⟩; rintro _ _ ⟨rfl, rfl⟩)
      | (refine CallWp.mk ⟨_, spec_great _, ?_⟩; rintro _ _ ⟨rfl, rfl⟩))
    all_goals (try (conv => whnf))
    exact Done.mk ⟨rfl, by kernel_rfl⟩ (by kernel_rfl)
  by_cases hg2 : greatAt 0 m = true
  · have n2 : ¬ greatAt 0 m = false := by simp [hg2]
    repeat' ((conv => whnf); first
      | (refine And.intro (fun hb => ?_) (fun hb => ?_) <;> first | (exact absurd hb (by first | assumption | decide)) | (rw [hb]) | skip)
      | (refine Exists.intro ?_ ?_; focus (and_intros <;> first | omega | exact rfl | assumption | (intro _ hh; cases hh; done) | exact all_size (by rfl) | (simp; done) | decide))
      | (intro hfact)
      | (refine Drawn.mk (by kernel_rfl) (fun hfact => ?_))
      | (refine CallWp.mk ⟨_, haw, ?_⟩; rintro _ _ ⟨rfl, rfl⟩)
      | (refine CallWp.mk ⟨_, spec_great _, ?_⟩; rintro _ _ ⟨rfl, rfl⟩))
    all_goals (try (conv => whnf))
    exact Done.mk ⟨rfl, by kernel_rfl⟩ (by kernel_rfl)
  have hl1 := (great_spec (by simpa using hg1 : greatAt 0 l = false)).1
  have hl2 := (great_spec (by simpa using hg2 : greatAt 0 m = false)).1
  by_cases hr1 : right 0 0 l = true
  case neg =>
    have hn1 := spec_new_no (by omega) hr1
    by_cases hc : (termAt 0 0 [] i).2 = true
    · have hcut := spec_cut_ok right00 hc
      repeat' ((conv => whnf); first
        | (refine And.intro (fun hb => ?_) (fun hb => ?_) <;> first | (exact absurd hb (by first | assumption | decide)) | (rw [hb]) | skip)
        | (refine Exists.intro ?_ ?_; focus (and_intros <;> first | omega | exact rfl | assumption | (intro _ hh; cases hh; done) | exact all_size (by rfl) | (simp; done) | decide))
        | (intro hfact)
        | (refine Drawn.mk (by kernel_rfl) (fun hfact => ?_))
        | (refine CallWp.mk ⟨_, haw, ?_⟩; rintro _ _ ⟨rfl, rfl⟩)
        | (refine CallWp.mk ⟨_, spec_great _, ?_⟩; rintro _ _ ⟨rfl, rfl⟩)
        | (refine CallWp.mk ⟨_, hn1, ?_⟩; rintro _ _ ⟨rfl, rfl⟩)
        | (refine CallWp.mk ⟨_, hcut, ?_⟩; rintro _ _ ⟨rfl, rfl⟩))
      all_goals (try (conv => whnf))
      exact Done.mk ⟨rfl, by kernel_rfl⟩ (by kernel_rfl)
    · have hcut := spec_cut_no right00 hc
      repeat' ((conv => whnf); first
        | (refine And.intro (fun hb => ?_) (fun hb => ?_) <;> first | (exact absurd hb (by first | assumption | decide)) | (rw [hb]) | skip)
        | (refine Exists.intro ?_ ?_; focus (and_intros <;> first | omega | exact rfl | assumption | (intro _ hh; cases hh; done) | exact all_size (by rfl) | (simp; done) | decide))
        | (intro hfact)
        | (refine Drawn.mk (by kernel_rfl) (fun hfact => ?_))
        | (refine CallWp.mk ⟨_, haw, ?_⟩; rintro _ _ ⟨rfl, rfl⟩)
        | (refine CallWp.mk ⟨_, spec_great _, ?_⟩; rintro _ _ ⟨rfl, rfl⟩)
        | (refine CallWp.mk ⟨_, hn1, ?_⟩; rintro _ _ ⟨rfl, rfl⟩)
        | (refine CallWp.mk ⟨_, hcut, ?_⟩; rintro _ _ ⟨rfl, rfl⟩))
      all_goals (try (conv => whnf))
      exact Done.mk ⟨rfl, by kernel_rfl⟩ (by kernel_rfl)
  have hn1 := spec_new_ok (by omega) hr1
  have hR := right_spec hr1
  by_cases hc : (termAt 0 0 l i).2 = true
  case neg =>
    have hcut := spec_cut_no hR hc
    by_cases hi : i < 0
    · have n3 : ¬ decide (i < 0) = false := by simp [hi]
      repeat' ((conv => whnf); first
        | (refine And.intro (fun hb => ?_) (fun hb => ?_) <;> first | (exact absurd hb (by first | assumption | decide)) | (rw [hb]) | skip)
        | (refine Exists.intro ?_ ?_; focus (and_intros <;> first | omega | exact rfl | assumption | (intro _ hh; cases hh; done) | exact all_size (by rfl) | (simp; done) | decide))
        | (intro hfact)
        | (refine Drawn.mk (by kernel_rfl) (fun hfact => ?_))
        | (refine CallWp.mk ⟨_, haw, ?_⟩; rintro _ _ ⟨rfl, rfl⟩)
        | (refine CallWp.mk ⟨_, spec_great _, ?_⟩; rintro _ _ ⟨rfl, rfl⟩)
        | (refine CallWp.mk ⟨_, hn1, ?_⟩; rintro _ _ ⟨rfl, rfl⟩)
        | (refine CallWp.mk ⟨_, hcut, ?_⟩; rintro _ _ ⟨rfl, rfl⟩))
      all_goals (try (conv => whnf))
      exact Done.mk ⟨rfl, by kernel_rfl⟩ (by kernel_rfl)
    · have n3 : ¬ decide (i < 0) = true := by simp; omega
      repeat' ((conv => whnf); first
        | (refine And.intro (fun hb => ?_) (fun hb => ?_) <;> first | (exact absurd hb (by first | assumption | decide)) | (rw [hb]) | skip)
        | (refine Exists.intro ?_ ?_; focus (and_intros <;> first | omega | exact rfl | assumption | (intro _ hh; cases hh; done) | exact all_size (by rfl) | (simp; done) | decide))
        | (intro hfact)
        | (refine Drawn.mk (by kernel_rfl) (fun hfact => ?_))
        | (refine CallWp.mk ⟨_, haw, ?_⟩; rintro _ _ ⟨rfl, rfl⟩)
        | (refine CallWp.mk ⟨_, spec_great _, ?_⟩; rintro _ _ ⟨rfl, rfl⟩)
        | (refine CallWp.mk ⟨_, hn1, ?_⟩; rintro _ _ ⟨rfl, rfl⟩)
        | (refine CallWp.mk ⟨_, hcut, ?_⟩; rintro _ _ ⟨rfl, rfl⟩))
      all_goals (try (conv => whnf))
      refine Done.mk ⟨SV.bool_congr ?_, by kernel_rfl⟩ (by kernel_rfl)
      have hlt : (l.length : Int) < i := by
        rcases Int.lt_or_le (l.length : Int) i with h | h
        · exact h
        · exact absurd ((termAt_iff (ix := 0) (tm := 0) (es := l) i).2 (by omega)) hc
      simpa using hlt
  have hi := (termAt_iff (ix := 0) (tm := 0) (es := l) i).1 hc
  have hcut := spec_cut_ok hR hc
  have hRc := hR.cut hi
  have hlc := lastOf_cut hR hi
  have hlen := hR.len
  have hw1 : IntKind.i64.wrap (i + 1) = i + 1 := wrap_id (by omega)
  have hw2 : IntKind.i64.wrap (((l.map Ent.toI).length : Int) + ((m.map Ent.toI).length : Int)) = ((l.map Ent.toI).length : Int) + ((m.map Ent.toI).length : Int) := by simp only [List.length_map]; exact wrap_id (by omega)
  have hf1 := spec_from i (termAt 0 0 l i).1 (l.drop (i - 0).toNat) 0 9999 hRc
  rw [from_all hRc (by omega)] at hf1
  have hf2 := spec_from 0 0 l (i + 1) 9999 hR
  rw [from_drop hR hi.1] at hf2
  have hs1 := spec_same_yes (rfl : l.drop (i - 0).toNat = l.drop (i - 0).toNat)
  have hla := spec_last 0 0 l
  have hlb := spec_last i (termAt 0 0 l i).1 (l.drop (i - 0).toNat)
  rw [hlc] at hlb
  have n4 : ¬ (!decide ((lastOf 0 0 l).1 = (lastOf 0 0 l).1)) = true := by simp
  have n5 : ¬ (!decide ((lastOf 0 0 l).2 = (lastOf 0 0 l).2)) = true := by simp
  have n6 : ¬ (!decide ((lastOf 0 0 l).1 + (m.length : Int) = (lastOf 0 0 l).1 + (m.length : Int))) = true := by simp
  by_cases hb : (l.length : Int) + (m.length : Int) ≤ 4096
  · have n7 : ¬ decide (IntKind.i64.wrap (((l.map Ent.toI).length : Int) + ((m.map Ent.toI).length : Int)) ≤ 4096) = false := by rw [hw2]; simp; omega
    have n8 : ¬ decide (4096 < IntKind.i64.wrap (((l.map Ent.toI).length : Int) + ((m.map Ent.toI).length : Int))) = true := by rw [hw2]; simp; omega
    have hca := fun hf => right_append hR hm hf (by omega)
    have hcb := fun hf => right_append hRc hm hf (by rw [List.length_drop]; omega)
    by_cases h1 : fitsAt (lastOf 0 0 l).1 0 (lastOf 0 0 l).2 m = true ∧ right 0 0 (l ++ m) = true
    · have h2 : fitsAt (lastOf i (termAt 0 0 l i).1 (l.drop (i - 0).toNat)).1 0 (lastOf i (termAt 0 0 l i).1 (l.drop (i - 0).toNat)).2 m = true ∧ right i (termAt 0 0 l i).1 (l.drop (i - 0).toNat ++ m) = true := by
        rw [hlc]
        refine ⟨h1.1, ?_⟩
        rw [hcb (by rw [hlc]; exact h1.1), ← hca h1.1]
        exact h1.2
      have hp1 := spec_put_last hgrow hR hm (by omega) h1
      have hp2 := spec_put_last hgrow hRc hm (by omega) h2
      rw [hlc] at hp2
      have hRa := right_spec h1.2
      have hRb := right_spec h2.2
      have hg1 := spec_from 0 0 (l ++ m) (i + 1) 9999 hRa
      rw [from_drop hRa hi.1] at hg1
      have hg2 := spec_from i (termAt 0 0 l i).1 (l.drop (i - 0).toNat ++ m) 0 9999 hRb
      rw [from_all hRb (by omega)] at hg2
      have hs2 := spec_same_yes (a := (l ++ m).drop (i - 0).toNat) (b := l.drop (i - 0).toNat ++ m) (by rw [List.drop_append_of_le_length (by omega)])
      repeat' ((conv => whnf); first
        | (refine And.intro (fun hb => ?_) (fun hb => ?_) <;> first | (exact absurd hb (by first | assumption | decide)) | (rw [hb]) | skip)
        | (refine Exists.intro ?_ ?_; focus (and_intros <;> first | omega | exact rfl | assumption | (intro _ hh; cases hh; done) | exact all_size (by rfl) | (simp; done) | decide))
        | (intro hfact)
        | (refine Drawn.mk (by kernel_rfl) (fun hfact => ?_))
        | (refine CallWp.mk ⟨_, haw, ?_⟩; rintro _ _ ⟨rfl, rfl⟩)
        | (refine CallWp.mk ⟨_, spec_great _, ?_⟩; rintro _ _ ⟨rfl, rfl⟩)
        | (refine CallWp.mk ⟨_, hn1, ?_⟩; rintro _ _ ⟨rfl, rfl⟩)
        | (refine CallWp.mk ⟨_, hcut, ?_⟩; rintro _ _ ⟨rfl, rfl⟩)
        | (refine CallIs.mk ⟨_, _, hf1, ?_⟩)
        | (refine CallIs.mk ⟨_, _, hf2, ?_⟩)
        | (refine CallIs.mk ⟨_, _, hs1, ?_⟩)
        | ((try dsimp only); rw [hw1])
        | (refine CallWp.mk ⟨_, hla, ?_⟩; rintro _ _ ⟨rfl, rfl⟩)
        | (refine CallWp.mk ⟨_, hlb, ?_⟩; rintro _ _ ⟨rfl, rfl⟩)
        | (refine CallWp.mk ⟨_, hp1, ?_⟩; rintro _ _ ⟨rfl, rfl⟩)
        | (refine CallWp.mk ⟨_, hp2, ?_⟩; rintro _ _ ⟨rfl, rfl⟩)
        | (refine CallIs.mk ⟨_, _, hg1, ?_⟩)
        | (refine CallIs.mk ⟨_, _, hg2, ?_⟩)
        | (refine CallIs.mk ⟨_, _, hs2, ?_⟩))
      all_goals (try (conv => whnf))
      all_goals exact Done.mk ⟨rfl, by kernel_rfl⟩ (by kernel_rfl)
    · have h2 : ¬ (fitsAt (lastOf i (termAt 0 0 l i).1 (l.drop (i - 0).toNat)).1 0 (lastOf i (termAt 0 0 l i).1 (l.drop (i - 0).toNat)).2 m = true ∧ right i (termAt 0 0 l i).1 (l.drop (i - 0).toNat ++ m) = true) := by
        rintro ⟨h3, h4⟩
        rw [hcb h3] at h4
        rw [hlc] at h3
        exact h1 ⟨h3, by rw [hca h3]; exact h4⟩
      have hp1 := spec_put_not hgrow hR hm (by omega) h1
      have hp2 := spec_put_not hgrow hRc hm (by omega) h2
      rw [hlc] at hp2
      repeat' ((conv => whnf); first
        | (refine And.intro (fun hb => ?_) (fun hb => ?_) <;> first | (exact absurd hb (by first | assumption | decide)) | (rw [hb]) | skip)
        | (refine Exists.intro ?_ ?_; focus (and_intros <;> first | omega | exact rfl | assumption | (intro _ hh; cases hh; done) | exact all_size (by rfl) | (simp; done) | decide))
        | (intro hfact)
        | (refine Drawn.mk (by kernel_rfl) (fun hfact => ?_))
        | (refine CallWp.mk ⟨_, haw, ?_⟩; rintro _ _ ⟨rfl, rfl⟩)
        | (refine CallWp.mk ⟨_, spec_great _, ?_⟩; rintro _ _ ⟨rfl, rfl⟩)
        | (refine CallWp.mk ⟨_, hn1, ?_⟩; rintro _ _ ⟨rfl, rfl⟩)
        | (refine CallWp.mk ⟨_, hcut, ?_⟩; rintro _ _ ⟨rfl, rfl⟩)
        | (refine CallIs.mk ⟨_, _, hf1, ?_⟩)
        | (refine CallIs.mk ⟨_, _, hf2, ?_⟩)
        | (refine CallIs.mk ⟨_, _, hs1, ?_⟩)
        | ((try dsimp only); rw [hw1])
        | (refine CallWp.mk ⟨_, hla, ?_⟩; rintro _ _ ⟨rfl, rfl⟩)
        | (refine CallWp.mk ⟨_, hlb, ?_⟩; rintro _ _ ⟨rfl, rfl⟩)
        | (refine CallWp.mk ⟨_, hp1, ?_⟩; rintro _ _ ⟨rfl, rfl⟩)
        | (refine CallWp.mk ⟨_, hp2, ?_⟩; rintro _ _ ⟨rfl, rfl⟩))
      all_goals (try (conv => whnf))
      all_goals exact Done.mk ⟨rfl, by kernel_rfl⟩ (by kernel_rfl)
  · have n7 : ¬ decide (IntKind.i64.wrap (((l.map Ent.toI).length : Int) + ((m.map Ent.toI).length : Int)) ≤ 4096) = true := by rw [hw2]; simp; omega
    have n8 : ¬ decide (4096 < IntKind.i64.wrap (((l.map Ent.toI).length : Int) + ((m.map Ent.toI).length : Int))) = false := by rw [hw2]; simp; omega
    have hp1 : ∃ x1 x2 x3, Fn Try.prog F_slog_Log_Put [.v (logI 0 0 l), .v (.int .i64 (lastOf 0 0 l).1), .v (.int .i64 (lastOf 0 0 l).2), .v (.list (m.map Ent.toI))] (Is (.tup [.i (logI 0 0 x1), .i (.int .i64 x2), .i (.bool x3)]) [.no, .no, .no, .no]) :=
      ⟨_, _, _, spec_put hgrow 0 0 l _ _ m hR hm (by omega)⟩
    have hp2 : ∃ x1 x2 x3, Fn Try.prog F_slog_Log_Put [.v (logI i (termAt 0 0 l i).1 (l.drop (i - 0).toNat)), .v (.int .i64 (lastOf 0 0 l).1), .v (.int .i64 (lastOf 0 0 l).2), .v (.list (m.map Ent.toI))] (Is (.tup [.i (logI i (termAt 0 0 l i).1 x1), .i (.int .i64 x2), .i (.bool x3)]) [.no, .no, .no, .no]) :=
      ⟨_, _, _, spec_put hgrow i _ _ _ _ m hRc hm (by omega)⟩
    obtain ⟨x1, x2, x3, hp1⟩ := hp1
    obtain ⟨y1, y2, y3, hp2⟩ := hp2
    repeat' ((conv => whnf); first
      | (refine And.intro (fun hb => ?_) (fun hb => ?_) <;> first | (exact absurd hb (by first | assumption | decide)) | (rw [hb]) | skip)
      | (refine Exists.intro ?_ ?_; focus (and_intros <;> first | omega | exact rfl | assumption | (intro _ hh; cases hh; done) | exact all_size (by rfl) | (simp; done) | decide))
      | (intro hfact)
      | (refine Drawn.mk (by kernel_rfl) (fun hfact => ?_))
      | (refine CallWp.mk ⟨_, haw, ?_⟩; rintro _ _ ⟨rfl, rfl⟩)
      | (refine CallWp.mk ⟨_, spec_great _, ?_⟩; rintro _ _ ⟨rfl, rfl⟩)
      | (refine CallWp.mk ⟨_, hn1, ?_⟩; rintro _ _ ⟨rfl, rfl⟩)
      | (refine CallWp.mk ⟨_, hcut, ?_⟩; rintro _ _ ⟨rfl, rfl⟩)
      | (refine CallIs.mk ⟨_, _, hf1, ?_⟩)
      | (refine CallIs.mk ⟨_, _, hf2, ?_⟩)
      | (refine CallIs.mk ⟨_, _, hs1, ?_⟩)
      | ((try dsimp only); rw [hw1])
      | (refine CallWp.mk ⟨_, hla, ?_⟩; rintro _ _ ⟨rfl, rfl⟩)
      | (refine CallWp.mk ⟨_, hlb, ?_⟩; rintro _ _ ⟨rfl, rfl⟩)
      | (refine CallWp.mk ⟨_, hp1, ?_⟩; rintro _ _ ⟨rfl, rfl⟩)
      | (refine CallWp.mk ⟨_, hp2, ?_⟩; rintro _ _ ⟨rfl, rfl⟩))
    all_goals (try (conv => whnf))
    all_goals exact Done.mk ⟨rfl, by kernel_rfl⟩ (by kernel_rfl)
end Go.Ab

