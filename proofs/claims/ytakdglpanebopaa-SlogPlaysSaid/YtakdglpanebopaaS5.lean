/- One text of the proof whose last text says what is proved. -/
import Derived.Test.YtakdglpanebopaaS4
set_option linter.unusedVariables false
set_option linter.unusedSimpArgs false
set_option maxRecDepth 100000
namespace Go.Ab
open Go.Proofs

def addM (ix tm : Int) (es : List Ent) (term : Int) (d : List UInt8) : List Ent := es ++ [⟨w64 ((lastOf ix tm es).1 + 1), term, d⟩]
theorem spec_add (ix tm : Int) (es : List Ent) (term : Int) (d : List UInt8) (hl : es.length ≤ 900000) : Fn Try.prog F_slog_Log_Add [.v (logI ix tm es), .v (.int .i64 term), .v (.str d)]
    (Is (.tup (if right ix tm (addM ix tm es term d) then [.i (logI ix tm (addM ix tm es term d)), .i (.bool true)] else [.i (logI ix tm es), .i (.bool false)])) [.no, .no, .no]) := by
  refine of_slog_Log_Add ?_ (by simp)
  have hsz := ents_size es
  have hl' : (es.map Ent.toI).length ≤ 1000000 := by rw [List.length_map]; omega
  have hl1 : ((es.map Ent.toI).length + [(⟨w64 ((lastOf ix tm es).1 + 1), term, d⟩ : Ent).toI].length) * 32 ≤ 140737488355328 := by simp; omega
  have hl2 : (es.map Ent.toI).length + [(⟨w64 ((lastOf ix tm es).1 + 1), term, d⟩ : Ent).toI].length ≤ maxLen := by simp [maxLen]; omega
  have hl3 : ∀ u ∈ [(⟨w64 ((lastOf ix tm es).1 + 1), term, d⟩ : Ent).toI], u.size = 3 := ents_size [⟨w64 ((lastOf ix tm es).1 + 1), term, d⟩]
  have hap : es.map Ent.toI ++ [(⟨w64 ((lastOf ix tm es).1 + 1), term, d⟩ : Ent).toI] = (addM ix tm es term d).map Ent.toI := by simp [addM]
  have hright : Fn Try.prog 28 [.v (.agg [.int .i64 ix, .int .i64 tm, .list (es.map Ent.toI ++ [(⟨w64 ((lastOf ix tm es).1 + 1), term, d⟩ : Ent).toI])])] (Is (.v (.bool (right ix tm (addM ix tm es term d)))) [.no]) := by
    rw [hap]
    exact spec_right _ _ _
  repeat' ((conv => whnf); first
    | (refine And.intro (fun hb => ?_) (fun hb => ?_) <;> first | (exact absurd hb (by first | assumption | decide)) | (rw [hb]) | skip)
    | (refine Exists.intro ?_ ?_; focus (and_intros <;> first | omega | exact rfl | assumption | (intro _ hh; cases hh; done) | exact all_size (by rfl) | (simp; done) | decide))
    | (intro hfact)
    | (refine Drawn.mk (by kernel_rfl) (fun hfact => ?_))
    | (refine CallWp.mk ⟨_, spec_last _ _ _, ?_⟩; rintro _ _ ⟨rfl, rfl⟩)
    | (refine CallIs.mk ⟨_, _, spec_clone _ hsz hl', ?_⟩)
    | (refine CallWp.mk ⟨_, hright, ?_⟩; rintro _ _ ⟨rfl, rfl⟩))
  all_goals (try (conv => whnf))
  · refine Done.mk ⟨?_, by kernel_rfl⟩ (by kernel_rfl)
    rw [if_neg (by simpa using hb)]
    rfl
  · refine Done.mk ⟨?_, by kernel_rfl⟩ (by kernel_rfl)
    rw [if_pos (by simpa using hb)]
    show SV.tup [.i (.agg [.int .i64 ix, .int .i64 tm, .list (es.map Ent.toI ++ [(⟨w64 ((lastOf ix tm es).1 + 1), term, d⟩ : Ent).toI])]), .i (.bool true)] = _
    rw [hap]

theorem spec_cut (ix tm : Int) (es : List Ent) (i : Int) (h : Right ix tm es) : Fn Try.prog F_slog_Log_Cut [.v (logI ix tm es), .v (.int .i64 i)]
    (Is (.tup (if (termAt ix tm es i).2 then [.i (logI i (termAt ix tm es i).1 (es.drop (i - ix).toNat)), .i (.bool true)] else [.i (logI ix tm es), .i (.bool false)])) [.no, .no]) := by
  refine of_slog_Log_Cut ?_ (by simp)
  have hsz := ents_size es
  have hix := h.hix
  have hlen := h.len
  by_cases ht : (termAt ix tm es i).2 = true
  · have hi : ix ≤ i ∧ i ≤ ix + es.length := by
      unfold termAt at ht
      split at ht
      · cases ht
      · omega
    have hw : IntKind.i64.wrap (i - ix) = i - ix := wrap_id (by omega)
    have hn1 : 0 ≤ i - ix := by omega
    have hn2 : i - ix ≤ ((es.map Ent.toI).length : Int) := by rw [List.length_map]; omega
    repeat' ((conv => whnf); first
      | (refine And.intro (fun hb => ?_) (fun hb => ?_) <;> first | (exact absurd hb (by first | assumption | decide)) | (rw [hb]) | skip)
      | (refine Exists.intro ?_ ?_; focus (and_intros <;> first | omega | exact rfl | assumption | (intro _ hh; cases hh; done) | exact all_size (by rfl) | (simp; done) | decide))
      | (intro hfact)
      | (refine Drawn.mk (by kernel_rfl) (fun hfact => ?_))
      | (refine CallWp.mk ⟨_, spec_term _ _ _ _ h, ?_⟩; rintro _ _ ⟨rfl, rfl⟩)
      | ((try dsimp only); rw [hw]))
    all_goals (try (conv => whnf))
    · exfalso
      simp [ht] at hb
    · refine Done.mk ⟨?_, by kernel_rfl⟩ (by kernel_rfl)
      rw [if_pos ht]
      show SV.tup [.i (.agg [.int .i64 i, .int .i64 (termAt ix tm es i).1, .list (((es.map Ent.toI).take (((es.map Ent.toI).length : Int)).toNat).drop (i - ix).toNat)]), .i (.bool true)] = _
      rw [Int.toNat_natCast, List.take_length, ← List.map_drop]
  · have ht' : (termAt ix tm es i).2 = false := by simpa using ht
    repeat' ((conv => whnf); first
      | (refine And.intro (fun hb => ?_) (fun hb => ?_) <;> first | (exact absurd hb (by first | assumption | decide)) | (rw [hb]) | skip)
      | (refine Exists.intro ?_ ?_; focus (and_intros <;> first | omega | exact rfl | assumption | (intro _ hh; cases hh; done) | exact all_size (by rfl) | (simp; done) | decide))
      | (intro hfact)
      | (refine Drawn.mk (by kernel_rfl) (fun hfact => ?_))
      | (refine CallWp.mk ⟨_, spec_term _ _ _ _ h, ?_⟩; rintro _ _ ⟨rfl, rfl⟩))
    all_goals (try (conv => whnf))
    · refine Done.mk ⟨?_, by kernel_rfl⟩ (by kernel_rfl)
      rw [if_neg ht]
      rfl
    · exfalso
      simp [ht'] at hb
end Go.Ab

