/- One text of the proof whose last text says what is proved. -/
import Derived.Test.YtakdglpanebopaaS0
set_option linter.unusedVariables false
set_option linter.unusedSimpArgs false
set_option maxRecDepth 100000
namespace Go.Ab
open Go.Proofs

structure Ent where
  i : Int
  t : Int
  d : List UInt8
  deriving DecidableEq
def Ent.toI (e : Ent) : I := .agg [.int .i64 e.i, .int .i64 e.t, .str e.d]
abbrev ents (l : List Ent) : I := .list (l.map Ent.toI)
abbrev w64 (n : Int) : Int := IntKind.i64.wrap n
theorem Ent.size_toI (e : Ent) : e.toI.size = 3 := rfl
theorem ents_size (l : List Ent) : ∀ u ∈ l.map Ent.toI, u.size = 3 := by
  intro u hu
  obtain ⟨e, _, rfl⟩ := List.mem_map.1 hu
  rfl
theorem ents_get {l : List Ent} {k : Nat} {e : Ent} (h : l[k]? = some e) : (l.map Ent.toI)[k]? = some e.toI := by simp [h]

def inB (n : Int) : Bool := decide (0 ≤ n) && decide (n ≤ 1099511627776)
theorem spec_in (n : Int) : Fn Try.prog F_slog_in [.v (.int .i64 n)] (Is (.v (.bool (inB n))) [.no]) := by
  refine of_slog_in ?_ (by simp)
  repeat' ((conv => whnf); first
    | (refine And.intro (fun hb => ?_) (fun hb => ?_) <;> first | (exact absurd hb (by first | assumption | decide)) | (rw [hb]) | skip)
    | (refine Exists.intro ?_ ?_; focus (and_intros <;> first | omega | exact rfl | assumption | (intro _ hh; cases hh; done) | exact all_size (by rfl) | (simp; done) | decide))
    | (intro hfact)
    | (refine Drawn.mk (by kernel_rfl) (fun hfact => ?_)))
  all_goals (try (conv => whnf))
  all_goals refine Done.mk ⟨SV.bool_congr ?_, by kernel_rfl⟩ (by kernel_rfl)
  all_goals (simp_all [inB] <;> omega)

def fitsAt (ix : Int) : Nat → Int → List Ent → Bool
  | _, _, [] => true
  | k, t, e :: r => !(decide (w64 (w64 (e.i - 1) - k) ≠ ix) || decide (e.t < t)) && fitsAt ix (k + 1) e.t r
theorem spec_fits (ix t0 : Int) (es : List Ent) : Fn Try.prog F_slog_fits [.v (.int .i64 ix), .v (.int .i64 t0), .v (.list (es.map Ent.toI))] (Is (.v (.bool (fitsAt ix 0 t0 es))) [.no, .no, .no]) := by
  refine of_slog_fits ?_ (by simp)
  repeat' ((conv => whnf); first
    | (refine And.intro (fun hb => ?_) (fun hb => ?_) <;> first | (exact absurd hb (by first | assumption | decide)) | (rw [hb]) | skip)
    | (refine Exists.intro ?_ ?_; focus (and_intros <;> first | omega | exact rfl | assumption | (intro _ hh; cases hh; done) | exact all_size (by rfl) | (simp; done) | decide))
    | (intro hfact)
    | (refine Drawn.mk (by kernel_rfl) (fun hfact => ?_)))
  all_goals (try (conv => whnf))
  refine LoopWq.by (X := Nat × Int) (fun x => [(1, .v (.int .i64 x.2)), (11, .v (.int .i64 x.1))]) (fun x => x.1 ≤ es.length ∧ fitsAt ix x.1 x.2 (es.drop x.1) = fitsAt ix 0 t0 es) (fun x => es.length - x.1)
    (0, t0) (by kernel_rfl) ⟨Nat.zero_le _, rfl⟩ ?_
  rintro ⟨k, t⟩ ⟨h1, h2⟩
  dsimp only at h1 h2 ⊢
  by_cases hk : k < es.length
  · obtain ⟨e, he⟩ : ∃ e, es[k]? = some e := ⟨es[k], List.getElem?_eq_getElem hk⟩
    have hg : (es.map Ent.toI)[Int.toNat (k : Int)]? = some e.toI := ents_get he
    have hlt : ¬ decide ((k : Int) < ((es.map Ent.toI).length : Int)) = false := by simp [hk]
    rw [List.drop_eq_getElem_cons hk] at h2
    repeat' ((conv => whnf); first
      | (refine And.intro (fun hb => ?_) (fun hb => ?_) <;> first | (exact absurd hb (by first | assumption | decide)) | (rw [hb]) | skip)
      | (refine Exists.intro ?_ ?_; focus (and_intros <;> first | omega | exact rfl | assumption | (intro _ hh; cases hh; done) | exact all_size (by rfl) | (simp; done) | decide))
      | (intro hfact)
      | (refine Drawn.mk (by kernel_rfl) (fun hfact => ?_))
      | ((try dsimp only); rw [hg]))
    all_goals (try (conv => whnf))
    · refine Done.mk ⟨SV.bool_congr ?_, by kernel_rfl⟩ (by kernel_rfl)
      rw [← h2]; simp_all [fitsAt]
    · refine Done.mk ⟨SV.bool_congr ?_, by kernel_rfl⟩ (by kernel_rfl)
      rw [← h2]; simp_all [fitsAt]
    · refine Round.by (k + 1, e.t) ?_ ?_ ?_
      · rw [wrap_succ hk (by simpa using hfact)]
        show norm _ _ = upd _ _
        kernel_rfl
      · refine ⟨hk, ?_⟩
        rw [← h2]; simp_all [fitsAt]
      · show es.length - (k + 1) < es.length - k
        omega
  · have hlt : ¬ decide ((k : Int) < ((es.map Ent.toI).length : Int)) = true := by simp; omega
    repeat' ((conv => whnf); first
      | (refine And.intro (fun hb => ?_) (fun hb => ?_) <;> first | (exact absurd hb (by first | assumption | decide)) | (rw [hb]) | skip)
      | (refine Exists.intro ?_ ?_; focus (and_intros <;> first | omega | exact rfl | assumption | (intro _ hh; cases hh; done) | exact all_size (by rfl) | (simp; done) | decide))
      | (intro hfact)
      | (refine Drawn.mk (by kernel_rfl) (fun hfact => ?_)))
    all_goals (try (conv => whnf))
    refine Done.mk ⟨SV.bool_congr ?_, by kernel_rfl⟩ (by kernel_rfl)
    rw [← h2, List.drop_eq_nil_of_le (by omega)]; simp [fitsAt]

/-- slices.Clone -/
theorem spec_clone (l : List I) (h : ∀ u ∈ l, u.size = 3) (hl : l.length ≤ 1000000) : Fn Try.prog F_slices_Clone_L_api_Entry_api_Entry [.v (.list l)] (Is (.vec 36 3 l) [.no]) := by
  refine ofv_slices_Clone_L_api_Entry_api_Entry ?_ (by simp)
  have hb1 : (([] : List I).length + l.length) * 32 ≤ 140737488355328 ∧ ([] : List I).length + l.length ≤ maxLen ∧ ∀ u ∈ l, u.size = 3 := ⟨by simp; omega, by simp [maxLen]; omega, h⟩
  repeat' ((conv => whnf); first
    | (refine And.intro (fun hb => ?_) (fun hb => ?_) <;> first | (exact absurd hb (by first | assumption | decide)) | (rw [hb]) | skip)
    | (refine Exists.intro ?_ ?_; focus (and_intros <;> first | omega | exact rfl | assumption | (intro _ hh; cases hh; done) | exact all_size (by rfl) | (simp; done) | decide))
    | (intro hfact)
    | (refine Drawn.mk (by kernel_rfl) (fun hfact => ?_)))
  all_goals (try (conv => whnf))
  · refine Done.mk ⟨congrArg (fun l => SV.vec 36 3 l) ?_, by kernel_rfl⟩ (by kernel_rfl)
    simp_all
  · exact Done.mk ⟨congrArg (fun l => SV.vec 36 3 l) (List.nil_append l), by kernel_rfl⟩ (by kernel_rfl)

abbrev logI (ix tm : Int) (es : List Ent) : I := .agg [.int .i64 ix, .int .i64 tm, ents es]
def lastOf (ix tm : Int) (es : List Ent) : Int × Int := match es.getLast? with
  | some e => (e.i, e.t)
  | none => (ix, tm)
theorem spec_last (ix tm : Int) (es : List Ent) : Fn Try.prog F_slog_Log_Last [.v (logI ix tm es)] (Is (.tup [.i (.int .i64 (lastOf ix tm es).1), .i (.int .i64 (lastOf ix tm es).2)]) [.no]) := by
  refine of_slog_Log_Last ?_ (by simp)
  rcases List.eq_nil_or_concat es with rfl | ⟨es', e, he⟩
  · have hn : ¬ decide ((0 : Int) < ((([] : List Ent).map Ent.toI).length : Int)) = true := by simp
    repeat' ((conv => whnf); first
      | (refine And.intro (fun hb => ?_) (fun hb => ?_) <;> first | (exact absurd hb (by first | assumption | decide)) | (rw [hb]) | skip)
      | (refine Exists.intro ?_ ?_; focus (and_intros <;> first | omega | exact rfl | assumption | (intro _ hh; cases hh; done) | exact all_size (by rfl) | (simp; done) | decide))
      | (intro hfact)
      | (refine Drawn.mk (by kernel_rfl) (fun hfact => ?_)))
    all_goals (try (conv => whnf))
    exact Done.mk ⟨rfl, by kernel_rfl⟩ (by kernel_rfl)
  · rw [List.concat_eq_append] at he
    subst he
    have hn : ¬ decide ((0 : Int) < (((es' ++ [e]).map Ent.toI).length : Int)) = false := by simp
    have hlen : ((es' ++ [e]).map Ent.toI).length = es'.length + 1 := by simp
    by_cases hm : ((es' ++ [e]).map Ent.toI).length ≤ maxLen
    · have hw : IntKind.i64.wrap ((((es' ++ [e]).map Ent.toI).length : Int) - 1) = (es'.length : Int) := by
        simp only [maxLen] at hm
        rw [wrap_id (by omega)]
        omega
      have h0 : 0 ≤ IntKind.i64.wrap ((((es' ++ [e]).map Ent.toI).length : Int) - 1) := by rw [hw]; omega
      have hg : ((es' ++ [e]).map Ent.toI)[Int.toNat (IntKind.i64.wrap ((((es' ++ [e]).map Ent.toI).length : Int) - 1))]? = some e.toI := by rw [hw]; simp
      repeat' ((conv => whnf); first
        | (refine And.intro (fun hb => ?_) (fun hb => ?_) <;> first | (exact absurd hb (by first | assumption | decide)) | (rw [hb]) | skip)
        | (refine Exists.intro ?_ ?_; focus (and_intros <;> first | omega | exact rfl | assumption | (intro _ hh; cases hh; done) | exact all_size (by rfl) | (simp; done) | decide))
        | (intro hfact)
        | (refine Drawn.mk (by kernel_rfl) (fun hfact => ?_))
        | ((try dsimp only); rw [hg]))
      all_goals (try (conv => whnf))
      refine Done.mk ⟨?_, by kernel_rfl⟩ (by kernel_rfl)
      simp [lastOf, resSV]
    · repeat' ((conv => whnf); first
        | (refine And.intro (fun hb => ?_) (fun hb => ?_) <;> first | (exact absurd hb (by first | assumption | decide)) | (rw [hb]) | skip)
        | (refine Exists.intro ?_ ?_; focus (and_intros <;> first | omega | exact rfl | assumption | (intro _ hh; cases hh; done) | exact all_size (by rfl) | (simp; done) | decide))
        | (intro hfact)
        | (refine Drawn.mk (by kernel_rfl) (fun hfact => ?_)))
      all_goals (try (conv => whnf))
      all_goals exact absurd (by assumption) hm
theorem spec_base (ix tm : Int) (es : List Ent) : Fn Try.prog F_slog_Log_Base [.v (logI ix tm es)] (Is (.tup [.i (.int .i64 ix), .i (.int .i64 tm)]) [.no]) := by
  refine of_slog_Log_Base ?_ (by simp)
  repeat' ((conv => whnf); first
    | (refine And.intro (fun hb => ?_) (fun hb => ?_) <;> first | (exact absurd hb (by first | assumption | decide)) | (rw [hb]) | skip)
    | (refine Exists.intro ?_ ?_; focus (and_intros <;> first | omega | exact rfl | assumption | (intro _ hh; cases hh; done) | exact all_size (by rfl) | (simp; done) | decide))
    | (intro hfact)
    | (refine Drawn.mk (by kernel_rfl) (fun hfact => ?_)))
  all_goals (try (conv => whnf))
  exact Done.mk ⟨rfl, by kernel_rfl⟩ (by kernel_rfl)
end Go.Ab

