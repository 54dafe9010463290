/- One text of the proof whose last text says what is proved. -/
import Derived.Test.YtakdglpanebopaaS1
set_option linter.unusedVariables false
set_option linter.unusedSimpArgs false
set_option maxRecDepth 100000
namespace Go.Ab
open Go.Proofs

def entOk (e : Ent) : Bool := inB e.i && inB e.t && !decide ((8192 : Int) < e.d.length)
def right (ix tm : Int) (es : List Ent) : Bool := inB ix && inB tm && !decide ((4096 : Int) < es.length) && es.all entOk && fitsAt ix 0 tm es
theorem spec_right (ix tm : Int) (es : List Ent) : Fn Try.prog F_slog_Log_right [.v (logI ix tm es)] (Is (.v (.bool (right ix tm es))) [.no]) := by
  refine of_slog_Log_right ?_ (by simp)
  repeat' ((conv => whnf); first
    | (refine And.intro (fun hb => ?_) (fun hb => ?_) <;> first | (exact absurd hb (by first | assumption | decide)) | (rw [hb]) | skip)
    | (refine Exists.intro ?_ ?_; focus (and_intros <;> first | omega | exact rfl | assumption | (intro _ hh; cases hh; done) | exact all_size (by rfl) | (simp; done) | decide))
    | (intro hfact)
    | (refine Drawn.mk (by kernel_rfl) (fun hfact => ?_))
    | (refine CallWp.mk ⟨_, spec_in _, ?_⟩; rintro _ _ ⟨rfl, rfl⟩))
  all_goals (try (conv => whnf))
  · refine Done.mk ⟨SV.bool_congr ?_, by kernel_rfl⟩ (by kernel_rfl)
    simp_all [right]
  · refine Done.mk ⟨SV.bool_congr ?_, by kernel_rfl⟩ (by kernel_rfl)
    simp_all [right]
  · refine Done.mk ⟨SV.bool_congr ?_, by kernel_rfl⟩ (by kernel_rfl)
    simp_all [right]
  have hmax : es.length ≤ maxLen := by simpa using hfact
  have hr : right ix tm es = (es.all entOk && fitsAt ix 0 tm es) := by
    have hle : decide ((4096 : Int) < es.length) = false := by simpa using hb
    simp_all only [right, Bool.not_eq_false', Bool.true_and, Bool.not_false]
  rw [hr]
  refine LoopWq.by (X := Nat) (fun x => [(24, .v (.int .i64 x))]) (fun x => x ≤ es.length ∧ (es.drop x).all entOk = es.all entOk) (fun x => es.length - x)
    0 (by kernel_rfl) ⟨Nat.zero_le _, rfl⟩ ?_
  rintro k ⟨h1, h2⟩
  by_cases hk : k < es.length
  · obtain ⟨e, he⟩ : ∃ e, es[k]? = some e := ⟨es[k], List.getElem?_eq_getElem hk⟩
    have hg : (es.map Ent.toI)[Int.toNat (k : Int)]? = some e.toI := ents_get he
    have hlt : ¬ decide ((k : Int) < ((es.map Ent.toI).length : Int)) = false := by simp [hk]
    have hke : es[k] = e := by rw [List.getElem?_eq_getElem hk] at he; simpa using he
    rw [List.drop_eq_getElem_cons hk, hke] at h2
    repeat' ((conv => whnf); first
      | (refine And.intro (fun hb => ?_) (fun hb => ?_) <;> first | (exact absurd hb (by first | assumption | decide)) | (rw [hb]) | skip)
      | (refine Exists.intro ?_ ?_; focus (and_intros <;> first | omega | exact rfl | assumption | (intro _ hh; cases hh; done) | exact all_size (by rfl) | (simp; done) | decide))
      | (intro hfact)
      | (refine Drawn.mk (by kernel_rfl) (fun hfact => ?_))
      | ((try dsimp only); rw [hg])
      | (refine CallWp.mk ⟨_, spec_in _, ?_⟩; rintro _ _ ⟨rfl, rfl⟩))
    all_goals (try (conv => whnf))
    · refine Done.mk ⟨SV.bool_congr ?_, by kernel_rfl⟩ (by kernel_rfl)
      rw [← h2]; simp_all [entOk]
    · refine Done.mk ⟨SV.bool_congr ?_, by kernel_rfl⟩ (by kernel_rfl)
      rw [← h2]; simp_all [entOk]
    · refine Done.mk ⟨SV.bool_congr ?_, by kernel_rfl⟩ (by kernel_rfl)
      rw [← h2]; simp_all [entOk]
    · refine Round.by (k + 1) ?_ ?_ ?_
      · rw [wrap_succ hk hmax]
        show norm _ _ = upd _ _
        kernel_rfl
      · refine ⟨hk, ?_⟩
        rw [← h2]; simp_all [entOk]
      · show es.length - (k + 1) < es.length - k
        omega
  · have hlt : ¬ decide ((k : Int) < ((es.map Ent.toI).length : Int)) = true := by simp; omega
    rw [List.drop_eq_nil_of_le (by omega)] at h2
    repeat' ((conv => whnf); first
      | (refine And.intro (fun hb => ?_) (fun hb => ?_) <;> first | (exact absurd hb (by first | assumption | decide)) | (rw [hb]) | skip)
      | (refine Exists.intro ?_ ?_; focus (and_intros <;> first | omega | exact rfl | assumption | (intro _ hh; cases hh; done) | exact all_size (by rfl) | (simp; done) | decide))
      | (intro hfact)
      | (refine Drawn.mk (by kernel_rfl) (fun hfact => ?_))
      | (refine CallWp.mk ⟨_, spec_fits _ _ _, ?_⟩; rintro _ _ ⟨rfl, rfl⟩))
    all_goals (try (conv => whnf))
    refine Done.mk ⟨SV.bool_congr ?_, by kernel_rfl⟩ (by kernel_rfl)
    rw [← h2]; simp

/-- slog.New: its beginning with right's answer. -/
theorem spec_new (ix tm : Int) (es : List Ent) (hl : es.length ≤ 1000000) : Fn Try.prog F_slog_New [.v (.int .i64 ix), .v (.int .i64 tm), .v (.list (es.map Ent.toI))]
    (Is (.tup (if right ix tm es then [.i (logI ix tm es), .i (.bool true)] else [.i (logI 0 0 []), .i (.bool false)])) [.no, .no, .no]) := by
  refine of_slog_New ?_ (by simp)
  repeat' ((conv => whnf); first
    | (refine And.intro (fun hb => ?_) (fun hb => ?_) <;> first | (exact absurd hb (by first | assumption | decide)) | (rw [hb]) | skip)
    | (refine Exists.intro ?_ ?_; focus (and_intros <;> first | omega | exact rfl | assumption | (intro _ hh; cases hh; done) | exact all_size (by rfl) | (simp; done) | decide))
    | (intro hfact)
    | (refine Drawn.mk (by kernel_rfl) (fun hfact => ?_))
    | (refine CallWp.mk ⟨_, spec_clone _ (ents_size es) (by simpa using hl), ?_⟩; rintro _ _ ⟨rfl, rfl⟩)
    | (refine CallWp.mk ⟨_, spec_right _ _ _, ?_⟩; rintro _ _ ⟨rfl, rfl⟩))
  all_goals (try (conv => whnf))
  · refine Done.mk ⟨?_, by kernel_rfl⟩ (by kernel_rfl)
    rw [if_neg (by simpa using hb)]
    rfl
  · refine Done.mk ⟨?_, by kernel_rfl⟩ (by kernel_rfl)
    rw [if_pos (by simpa using hb)]
    rfl

def newer (ix tm : Int) (es : List Ent) (index term : Int) : Bool := decide ((lastOf ix tm es).2 < term) || (decide (term = (lastOf ix tm es).2) && decide ((lastOf ix tm es).1 ≤ index))
theorem spec_newer (ix tm : Int) (es : List Ent) (index term : Int) : Fn Try.prog F_slog_Log_Newer [.v (logI ix tm es), .v (.int .i64 index), .v (.int .i64 term)] (Is (.v (.bool (newer ix tm es index term))) [.no, .no, .no]) := by
  refine of_slog_Log_Newer ?_ (by simp)
  repeat' ((conv => whnf); first
    | (refine And.intro (fun hb => ?_) (fun hb => ?_) <;> first | (exact absurd hb (by first | assumption | decide)) | (rw [hb]) | skip)
    | (refine Exists.intro ?_ ?_; focus (and_intros <;> first | omega | exact rfl | assumption | (intro _ hh; cases hh; done) | exact all_size (by rfl) | (simp; done) | decide))
    | (intro hfact)
    | (refine Drawn.mk (by kernel_rfl) (fun hfact => ?_))
    | (refine CallWp.mk ⟨_, spec_last _ _ _, ?_⟩; rintro _ _ ⟨rfl, rfl⟩))
  all_goals (try (conv => whnf))
  all_goals refine Done.mk ⟨SV.bool_congr ?_, by kernel_rfl⟩ (by kernel_rfl)
  all_goals simp_all [newer]
end Go.Ab

