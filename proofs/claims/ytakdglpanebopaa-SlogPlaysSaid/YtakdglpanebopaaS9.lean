/- One text of the proof whose last text says what is proved. -/
import Derived.Test.YtakdglpanebopaaS8
set_option linter.unusedVariables false
set_option linter.unusedSimpArgs false
set_option maxRecDepth 100000
set_option maxHeartbeats 1000000
namespace Go.Ab
open Go.Proofs

theorem spec_new_ok {ix tm : Int} {es : List Ent} (hl : es.length ≤ 1000000) (h : right ix tm es = true) : Fn Try.prog F_slog_New [.v (.int .i64 ix), .v (.int .i64 tm), .v (.list (es.map Ent.toI))]
    (Is (.tup [.i (logI ix tm es), .i (.bool true)]) [.no, .no, .no]) := by
  have := spec_new ix tm es hl
  rwa [if_pos h] at this
theorem spec_new_no {ix tm : Int} {es : List Ent} (hl : es.length ≤ 1000000) (h : ¬ right ix tm es = true) : Fn Try.prog F_slog_New [.v (.int .i64 ix), .v (.int .i64 tm), .v (.list (es.map Ent.toI))]
    (Is (.tup [.i (logI 0 0 []), .i (.bool false)]) [.no, .no, .no]) := by
  have := spec_new ix tm es hl
  rwa [if_neg h] at this
theorem spec_add_ok {ix tm : Int} {es : List Ent} {term : Int} {d : List UInt8} (hl : es.length ≤ 900000) (h : right ix tm (addM ix tm es term d) = true) : Fn Try.prog F_slog_Log_Add [.v (logI ix tm es), .v (.int .i64 term), .v (.str d)]
    (Is (.tup [.i (logI ix tm (addM ix tm es term d)), .i (.bool true)]) [.no, .no, .no]) := by
  have := spec_add ix tm es term d hl
  rwa [if_pos h] at this
theorem spec_add_no {ix tm : Int} {es : List Ent} {term : Int} {d : List UInt8} (hl : es.length ≤ 900000) (h : ¬ right ix tm (addM ix tm es term d) = true) : Fn Try.prog F_slog_Log_Add [.v (logI ix tm es), .v (.int .i64 term), .v (.str d)]
    (Is (.tup [.i (logI ix tm es), .i (.bool false)]) [.no, .no, .no]) := by
  have := spec_add ix tm es term d hl
  rwa [if_neg h] at this

abbrev awE : List Ent := [⟨1, 1, [120]⟩, ⟨2, 1, [120]⟩, ⟨3, 2, [120]⟩]
theorem spec_awake (hgrow : GrowOk) : Fn Try.prog F_exchequerlaw11_awake [] (Is (.v (.bool true)) []) := by
  refine of_exchequerlaw11_awake ?_ (by simp)
  have hr : right 0 0 awE = true := by kernel_rfl
  have hnew := spec_new_ok (ix := 0) (tm := 0) (es := awE) (by decide) hr
  have hput := spec_put hgrow 0 0 awE 1 1 [⟨2, 3, [120]⟩] (right_spec hr) (by intro e he; simp at he; subst he; simp [i64r]) (by decide)
  have hpm : putSV 0 0 (putM 0 0 awE 1 1 [⟨2, 3, [120]⟩]) = .tup [.i (logI 0 0 [⟨1, 1, [120]⟩, ⟨2, 3, [120]⟩]), .i (.int .i64 2), .i (.bool true)] := by kernel_rfl
  rw [hpm] at hput
  have hlast := spec_last 0 0 [⟨1, 1, [120]⟩, ⟨2, 3, [120]⟩]
  have hnw : newer 0 0 awE 3 1 = false := by kernel_rfl
  have hn := spec_newer 0 0 awE 3 1
  rw [hnw] at hn
  repeat' ((conv => whnf); first
    | (refine And.intro (fun hb => ?_) (fun hb => ?_) <;> first | (exact absurd hb (by first | assumption | decide)) | (rw [hb]) | skip)
    | (refine Exists.intro ?_ ?_; focus (and_intros <;> first | omega | exact rfl | assumption | (intro _ hh; cases hh; done) | exact all_size (by rfl) | (simp; done) | decide))
    | (intro hfact)
    | (refine Drawn.mk (by kernel_rfl) (fun hfact => ?_))
    | (refine CallWp.mk ⟨_, spec_entry _ _, ?_⟩; rintro _ _ ⟨rfl, rfl⟩)
    | (refine CallIs.mk ⟨_, _, spec_entry _ _, ?_⟩)
    | (refine CallWp.mk ⟨_, hnew, ?_⟩; rintro _ _ ⟨rfl, rfl⟩)
    | (refine CallIs.mk ⟨_, _, hput, ?_⟩)
    | (refine CallWp.mk ⟨_, hlast, ?_⟩; rintro _ _ ⟨rfl, rfl⟩)
    | (refine CallWp.mk ⟨_, hn, ?_⟩; rintro _ _ ⟨rfl, rfl⟩))
  all_goals (try (conv => whnf))
  exact Done.mk ⟨rfl, by kernel_rfl⟩ (by kernel_rfl)

theorem newer_total (l m : List Ent) (h : newer 0 0 l (lastOf 0 0 m).1 (lastOf 0 0 m).2 = false) : newer 0 0 m (lastOf 0 0 l).1 (lastOf 0 0 l).2 = true := by
  simp only [newer, Bool.or_eq_false_iff, Bool.and_eq_false_iff, decide_eq_false_iff_not, Bool.or_eq_true, Bool.and_eq_true, decide_eq_true_eq] at h ⊢
  omega
theorem newer_self (l : List Ent) : newer 0 0 l (lastOf 0 0 l).1 (lastOf 0 0 l).2 = true := by
  simp [newer]
theorem lastOf_add (ix tm : Int) (es : List Ent) (term : Int) (d : List UInt8) : lastOf ix tm (addM ix tm es term d) = (w64 ((lastOf ix tm es).1 + 1), term) := by
  simp [lastOf, addM]
theorem newer_add {l : List Ent} {term : Int} {d : List UInt8} (h0 : Right 0 0 l) (h : Right 0 0 (addM 0 0 l term d)) :
    newer 0 0 l (lastOf 0 0 (addM 0 0 l term d)).1 (lastOf 0 0 (addM 0 0 l term d)).2 = true ∧ newer 0 0 (addM 0 0 l term d) (lastOf 0 0 l).1 (lastOf 0 0 l).2 = false := by
  have hl := h0.last
  have hlen := h0.len
  have hw : w64 ((lastOf 0 0 l).1 + 1) = (lastOf 0 0 l).1 + 1 := by rw [hl, w64_eq]; omega
  have ht : (lastOf 0 0 l).2 ≤ term := by
    rcases List.eq_nil_or_concat l with rfl | ⟨l', e, he⟩
    · exact (h.at_ 0 _ rfl).2.1
    · rw [List.concat_eq_append] at he
      subst he
      have := h.mono l'.length (l'.length + 1) e ⟨w64 ((lastOf 0 0 (l' ++ [e])).1 + 1), term, d⟩ (by omega) (by simp [addM]) (by simp [addM])
      simpa [lastOf] using this
  simp only [newer, lastOf_add, hw, Bool.or_eq_false_iff, Bool.and_eq_false_iff, decide_eq_false_iff_not, Bool.or_eq_true, Bool.and_eq_true, decide_eq_true_eq]
  omega

theorem law_newer (hgrow : GrowOk) (l m : List Ent) (term : Int) : Fn Try.prog F_exchequerlaw11_SlogNewer [.v (.list (l.map Ent.toI)), .v (.list (m.map Ent.toI)), .v (.int .i64 term)] (Is (.v (.bool true)) [.no, .no, .no]) := by
  refine of_exchequerlaw11_SlogNewer ?_ (by simp)
  have haw := spec_awake hgrow
  by_cases hg1 : greatAt 0 l = true
  · have n1 : ¬ greatAt 0 l = false := by simp [hg1]
    repeat' ((conv => whnf); first
      | (refine And.intro (fun hb => ?_) (fun hb => ?_) <;> first | (exact absurd hb (by first | assumption | decide)) | (rw [hb]) | skip)
      | (refine Exists.intro ?_ ?_; focus (and_intros <;> first | omega | exact rfl | assumption | (intro _ hh; cases hh; done) | exact all_size (by rfl) | (simp; done) | decide))
      | (intro hfact)
      | (refine Drawn.mk (by kernel_rfl) (fun hfact => ?_))
      | (refine CallWp.mk ⟨_, haw, ?_⟩; rintro _ _ ⟨rfl, rfl⟩)
      | (refine CallWp.mk ⟨_, spec_great _, ?_⟩; rintro _ _ ⟨rfl, rfl⟩))
    all_goals (try (conv => whnf))
    exact Done.mk ⟨rfl, by kernel_rfl⟩ (by kernel_rfl)
  by_cases hg2 : greatAt 0 m = true
  · have n2 : ¬ greatAt 0 m = false := by simp [hg2]
    repeat' ((conv => whnf); first
      | (refine And.intro (fun hb => ?_) (fun hb => ?_) <;> first | (exact absurd hb (by first | assumption | decide)) | (rw [hb]) | skip)
      | (refine Exists.intro ?_ ?_; focus (and_intros <;> first | omega | exact rfl | assumption | (intro _ hh; cases hh; done) | exact all_size (by rfl) | (simp; done) | decide))
      | (intro hfact)
      | (refine Drawn.mk (by kernel_rfl) (fun hfact => ?_))
      | (refine CallWp.mk ⟨_, haw, ?_⟩; rintro _ _ ⟨rfl, rfl⟩)
      | (refine CallWp.mk ⟨_, spec_great _, ?_⟩; rintro _ _ ⟨rfl, rfl⟩))
    all_goals (try (conv => whnf))
    exact Done.mk ⟨rfl, by kernel_rfl⟩ (by kernel_rfl)
  have hl1 := (great_spec (by simpa using hg1 : greatAt 0 l = false)).1
  have hl2 := (great_spec (by simpa using hg2 : greatAt 0 m = false)).1
  by_cases hr1 : right 0 0 l = true
  case neg =>
    have hn1 := spec_new_no (by omega) hr1
    by_cases hr2 : right 0 0 m = true
    · have hn2 := spec_new_ok (by omega) hr2
      repeat' ((conv => whnf); first
        | (refine And.intro (fun hb => ?_) (fun hb => ?_) <;> first | (exact absurd hb (by first | assumption | decide)) | (rw [hb]) | skip)
        | (refine Exists.intro ?_ ?_; focus (and_intros <;> first | omega | exact rfl | assumption | (intro _ hh; cases hh; done) | exact all_size (by rfl) | (simp; done) | decide))
        | (intro hfact)
        | (refine Drawn.mk (by kernel_rfl) (fun hfact => ?_))
        | (refine CallWp.mk ⟨_, haw, ?_⟩; rintro _ _ ⟨rfl, rfl⟩)
        | (refine CallWp.mk ⟨_, spec_great _, ?_⟩; rintro _ _ ⟨rfl, rfl⟩)
        | (refine CallWp.mk ⟨_, hn1, ?_⟩; rintro _ _ ⟨rfl, rfl⟩)
        | (refine CallWp.mk ⟨_, hn2, ?_⟩; rintro _ _ ⟨rfl, rfl⟩))
      all_goals (try (conv => whnf))
      exact Done.mk ⟨rfl, by kernel_rfl⟩ (by kernel_rfl)
    · have hn2 := spec_new_no (by omega) hr2
      repeat' ((conv => whnf); first
        | (refine And.intro (fun hb => ?_) (fun hb => ?_) <;> first | (exact absurd hb (by first | assumption | decide)) | (rw [hb]) | skip)
        | (refine Exists.intro ?_ ?_; focus (and_intros <;> first | omega | exact rfl | assumption | (intro _ hh; cases hh; done) | exact all_size (by rfl) | (simp; done) | decide))
        | (intro hfact)
        | (refine Drawn.mk (by kernel_rfl) (fun hfact => ?_))
        | (refine CallWp.mk ⟨_, haw, ?_⟩; rintro _ _ ⟨rfl, rfl⟩)
        | (refine CallWp.mk ⟨_, spec_great _, ?_⟩; rintro _ _ ⟨rfl, rfl⟩)
        | (refine CallWp.mk ⟨_, hn1, ?_⟩; rintro _ _ ⟨rfl, rfl⟩)
        | (refine CallWp.mk ⟨_, hn2, ?_⟩; rintro _ _ ⟨rfl, rfl⟩))
      all_goals (try (conv => whnf))
      exact Done.mk ⟨rfl, by kernel_rfl⟩ (by kernel_rfl)
  have hn1 := spec_new_ok (by omega) hr1
  by_cases hr2 : right 0 0 m = true
  case neg =>
    have hn2 := spec_new_no (by omega) hr2
    repeat' ((conv => whnf); first
      | (refine And.intro (fun hb => ?_) (fun hb => ?_) <;> first | (exact absurd hb (by first | assumption | decide)) | (rw [hb]) | skip)
      | (refine Exists.intro ?_ ?_; focus (and_intros <;> first | omega | exact rfl | assumption | (intro _ hh; cases hh; done) | exact all_size (by rfl) | (simp; done) | decide))
      | (intro hfact)
      | (refine Drawn.mk (by kernel_rfl) (fun hfact => ?_))
      | (refine CallWp.mk ⟨_, haw, ?_⟩; rintro _ _ ⟨rfl, rfl⟩)
      | (refine CallWp.mk ⟨_, spec_great _, ?_⟩; rintro _ _ ⟨rfl, rfl⟩)
      | (refine CallWp.mk ⟨_, hn1, ?_⟩; rintro _ _ ⟨rfl, rfl⟩)
      | (refine CallWp.mk ⟨_, hn2, ?_⟩; rintro _ _ ⟨rfl, rfl⟩))
    all_goals (try (conv => whnf))
    exact Done.mk ⟨rfl, by kernel_rfl⟩ (by kernel_rfl)
  have hn2 := spec_new_ok (by omega) hr2
  have f2 : ¬ (!newer 0 0 l (lastOf 0 0 l).1 (lastOf 0 0 l).2) = true := by rw [newer_self]; decide
  have f1 : newer 0 0 l (lastOf 0 0 m).1 (lastOf 0 0 m).2 = false → ¬ (!newer 0 0 m (lastOf 0 0 l).1 (lastOf 0 0 l).2) = true := fun h => by rw [newer_total l m h]; decide
  by_cases hr3 : right 0 0 (addM 0 0 l term [121]) = true
  case neg =>
    have hn3 := spec_add_no (by omega) hr3
    repeat' ((conv => whnf); first
      | (refine And.intro (fun hb => ?_) (fun hb => ?_) <;> first | (exact absurd hb (by first | assumption | decide)) | (rw [hb]) | skip)
      | (refine Exists.intro ?_ ?_; focus (and_intros <;> first | omega | exact rfl | assumption | (intro _ hh; cases hh; done) | exact all_size (by rfl) | (simp; done) | decide))
      | (intro hfact)
      | (refine Drawn.mk (by kernel_rfl) (fun hfact => ?_))
      | (refine CallWp.mk ⟨_, haw, ?_⟩; rintro _ _ ⟨rfl, rfl⟩)
      | (refine CallWp.mk ⟨_, spec_great _, ?_⟩; rintro _ _ ⟨rfl, rfl⟩)
      | (refine CallWp.mk ⟨_, hn1, ?_⟩; rintro _ _ ⟨rfl, rfl⟩)
      | (refine CallWp.mk ⟨_, hn2, ?_⟩; rintro _ _ ⟨rfl, rfl⟩)
      | (refine CallWp.mk ⟨_, spec_last _ _ _, ?_⟩; rintro _ _ ⟨rfl, rfl⟩)
      | (refine CallWp.mk ⟨_, spec_newer _ _ _ _ _, ?_⟩; rintro _ _ ⟨rfl, rfl⟩)
      | (refine CallWp.mk ⟨_, hn3, ?_⟩; rintro _ _ ⟨rfl, rfl⟩))
    all_goals (try (conv => whnf))
    all_goals first
      | exact Done.mk ⟨rfl, by kernel_rfl⟩ (by kernel_rfl)
      | (exfalso
         have z1 : (!newer 0 0 l (lastOf 0 0 m).1 (lastOf 0 0 m).2) = true := by assumption
         have z2 : (!newer 0 0 m (lastOf 0 0 l).1 (lastOf 0 0 l).2) = true := by assumption
         exact f1 (by simpa using z1) z2)
  have hn3 := spec_add_ok (by omega) hr3
  have hadd := newer_add (right_spec hr1) (right_spec hr3)
  have f3 : ¬ newer 0 0 l (lastOf 0 0 (addM 0 0 l term [121])).1 (lastOf 0 0 (addM 0 0 l term [121])).2 = false := by rw [hadd.1]; decide
  repeat' ((conv => whnf); first
    | (refine And.intro (fun hb => ?_) (fun hb => ?_) <;> first | (exact absurd hb (by first | assumption | decide)) | (rw [hb]) | skip)
    | (refine Exists.intro ?_ ?_; focus (and_intros <;> first | omega | exact rfl | assumption | (intro _ hh; cases hh; done) | exact all_size (by rfl) | (simp; done) | decide))
    | (intro hfact)
    | (refine Drawn.mk (by kernel_rfl) (fun hfact => ?_))
    | (refine CallWp.mk ⟨_, haw, ?_⟩; rintro _ _ ⟨rfl, rfl⟩)
    | (refine CallWp.mk ⟨_, spec_great _, ?_⟩; rintro _ _ ⟨rfl, rfl⟩)
    | (refine CallWp.mk ⟨_, hn1, ?_⟩; rintro _ _ ⟨rfl, rfl⟩)
    | (refine CallWp.mk ⟨_, hn2, ?_⟩; rintro _ _ ⟨rfl, rfl⟩)
    | (refine CallWp.mk ⟨_, spec_last _ _ _, ?_⟩; rintro _ _ ⟨rfl, rfl⟩)
    | (refine CallWp.mk ⟨_, spec_newer _ _ _ _ _, ?_⟩; rintro _ _ ⟨rfl, rfl⟩)
    | (refine CallWp.mk ⟨_, hn3, ?_⟩; rintro _ _ ⟨rfl, rfl⟩))
  all_goals (try (conv => whnf))
  all_goals first
    | exact Done.mk ⟨rfl, by kernel_rfl⟩ (by kernel_rfl)
    | (exfalso
       have z1 : (!newer 0 0 l (lastOf 0 0 m).1 (lastOf 0 0 m).2) = true := by assumption
       have z2 : (!newer 0 0 m (lastOf 0 0 l).1 (lastOf 0 0 l).2) = true := by assumption
       exact f1 (by simpa using z1) z2)
    | (refine Done.mk ⟨?_, by kernel_rfl⟩ (by kernel_rfl)
       show SV.v (.bool (!newer 0 0 (addM 0 0 l term [121]) (lastOf 0 0 l).1 (lastOf 0 0 l).2)) = _
       rw [hadd.2]
       rfl)
end Go.Ab

