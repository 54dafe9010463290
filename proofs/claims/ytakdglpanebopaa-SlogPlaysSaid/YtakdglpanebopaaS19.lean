/- One text of the proof whose last text says what is proved. -/
import Derived.Test.YtakdglpanebopaaS16
set_option linter.unusedVariables false
set_option linter.unusedSimpArgs false
set_option maxRecDepth 100000
set_option maxHeartbeats 1000000
namespace Go.Ab
open Go.Proofs

/-! the document's logs -/
def rfitsAt (ix : Int) : Nat → Int → List Ent → Bool
  | _, _, [] => true
  | k, t, e :: r => !(decide (e.i < 1) || !decide (w64 (w64 (e.i - 1) - k) = ix) || decide (e.t < t)) && rfitsAt ix (k + 1) e.t r
theorem rfits_eq {ix : Int} (hix : 0 ≤ ix ∧ ix ≤ 1099511627776) : ∀ {es : List Ent} {k : Nat} {t : Int}, k + es.length ≤ 1000000 → (∀ e ∈ es, i64r e.i) → rfitsAt ix k t es = fitsAt ix k t es
  | [], k, t, _, _ => rfl
  | e :: r, k, t, hk, hr => by
    simp only [List.length_cons] at hk
    have h1 := hr e (List.mem_cons_self ..)
    unfold i64r at h1
    have h2 : (decide (e.i < 1) || !decide (w64 (w64 (e.i - 1) - k) = ix)) = decide (w64 (w64 (e.i - 1) - k) ≠ ix) := by
      rw [w64_eq, w64_eq]
      rw [Bool.eq_iff_iff]
      simp only [Bool.or_eq_true, decide_eq_true_eq, Bool.not_eq_true', decide_eq_false_iff_not]
      omega
    simp only [rfitsAt, fitsAt, h2]
    rw [rfits_eq hix (by omega) fun x hx => hr x (List.mem_cons_of_mem _ hx)]
theorem spec_rfits (ix t0 : Int) (es : List Ent) (hix : 0 ≤ ix ∧ ix ≤ 1099511627776) (hr : ∀ e ∈ es, i64r e.i) (hl : es.length ≤ 1000000) :
    Fn Try.prog F_exchequerref11_Fits [.v (.int .i64 ix), .v (.int .i64 t0), .v (.list (es.map Ent.toI))] (Is (.v (.bool (fitsAt ix 0 t0 es))) [.no, .no, .no]) := by
  rw [← rfits_eq hix (by omega) hr]
  refine of_exchequerref11_Fits ?_ (by simp)
  have hmax : es.length ≤ maxLen := by simp only [maxLen]; omega
  repeat' ((conv => whnf); first
    | (refine And.intro (fun hb => ?_) (fun hb => ?_) <;> first | (exact absurd hb (by first | assumption | decide)) | (rw [hb]) | skip)
    | (refine Exists.intro ?_ ?_; focus (and_intros <;> first | omega | exact rfl | assumption | (intro _ hh; cases hh; done) | exact all_size (by rfl) | (simp; done) | decide))
    | (intro hfact)
    | (refine Drawn.mk (by kernel_rfl) (fun hfact => ?_)))
  all_goals (try (conv => whnf))
  refine LoopWq.by (X := Nat × Int) (fun x => [(1, .v (.int .i64 x.2)), (7, .v (.int .i64 x.1))]) (fun x => x.1 ≤ es.length ∧ rfitsAt ix x.1 x.2 (es.drop x.1) = rfitsAt ix 0 t0 es) (fun x => es.length - x.1)
    (0, t0) (by kernel_rfl) ⟨Nat.zero_le _, rfl⟩ ?_
  rintro ⟨k, t⟩ ⟨h1, h2⟩
  dsimp only at h1 h2 ⊢
  by_cases hk : k < es.length
  · obtain ⟨e, he⟩ : ∃ e, es[k]? = some e := ⟨es[k], List.getElem?_eq_getElem hk⟩
    have hg : (es.map Ent.toI)[Int.toNat (k : Int)]? = some e.toI := ents_get he
    have hlt : ¬ decide ((k : Int) < ((es.map Ent.toI).length : Int)) = false := by simp [hk]
    have hke : es[k] = e := by rw [List.getElem?_eq_getElem hk] at he; simpa using he
    rw [List.drop_eq_getElem_cons hk, hke] at h2
    repeat' ((conv => whnf); first
      | (refine And.intro (fun hb => ?_) (fun hb => ?_) <;> first | (exact absurd hb (by first | assumption | decide)) | (rw [hb]) | skip)
      | (refine Exists.intro ?_ ?_; focus (and_intros <;> first | omega | exact rfl | assumption | (intro _ hh; cases hh; done) | exact all_size (by rfl) | (simp; done) | decide))
      | (intro hfact)
      | (refine Drawn.mk (by kernel_rfl) (fun hfact => ?_))
      | ((try dsimp only); rw [hg]))
    all_goals (try (conv => whnf))
    all_goals first
      | (refine Done.mk ⟨SV.bool_congr ?_, by kernel_rfl⟩ (by kernel_rfl)
         rw [← h2]; simp_all [rfitsAt]; done)
      | (refine Round.by (k + 1, e.t) ?_ ?_ ?_
         · rw [wrap_succ hk hmax]
           show norm _ _ = upd _ _
           kernel_rfl
         · refine ⟨hk, ?_⟩
           rw [← h2]; simp_all [rfitsAt]
         · show es.length - (k + 1) < es.length - k
           omega)
  · have hlt : ¬ decide ((k : Int) < ((es.map Ent.toI).length : Int)) = true := by simp; omega
    repeat' ((conv => whnf); first
      | (refine And.intro (fun hb => ?_) (fun hb => ?_) <;> first | (exact absurd hb (by first | assumption | decide)) | (rw [hb]) | skip)
      | (refine Exists.intro ?_ ?_; focus (and_intros <;> first | omega | exact rfl | assumption | (intro _ hh; cases hh; done) | exact all_size (by rfl) | (simp; done) | decide))
      | (intro hfact)
      | (refine Drawn.mk (by kernel_rfl) (fun hfact => ?_)))
    all_goals (try (conv => whnf))
    refine Done.mk ⟨SV.bool_congr ?_, by kernel_rfl⟩ (by kernel_rfl)
    rw [← h2, List.drop_eq_nil_of_le (by omega)]; simp [rfitsAt]

theorem right_no {ix tm : Int} {es : List Ent} (h : Right ix tm es → False) : right ix tm es = false := by
  cases hr : right ix tm es with
  | false => rfl
  | true => exact (h (right_spec hr)).elim
theorem right_eq {ix tm : Int} {es : List Ent} (h1 : 0 ≤ ix ∧ ix ≤ 1099511627776) (h2 : 0 ≤ tm ∧ tm ≤ 1099511627776) (h3 : es.length ≤ 4096) (h4 : ∀ e ∈ es, entOk e = true) : right ix tm es = fitsAt ix 0 tm es := by
  have h5 : es.all entOk = true := List.all_eq_true.2 h4
  have h6 : decide ((4096 : Int) < es.length) = false := by simp; omega
  simp only [right, inB_iff.2 h1, inB_iff.2 h2, h5, h6, Bool.not_false, Bool.true_and]
theorem spec_rright (ix tm : Int) (es : List Ent) : Fn Try.prog F_exchequerref11_Right [.v (logI ix tm es)] (Is (.v (.bool (right ix tm es))) [.no]) := by
  refine of_exchequerref11_Right ?_ (by simp)
  by_cases c1 : ix < 0
  · have n1 : ¬ decide (ix < 0) = false := by simp [c1]
    repeat' ((conv => whnf); first
      | (refine And.intro (fun hb => ?_) (fun hb => ?_) <;> first | (exact absurd hb (by first | assumption | decide)) | (rw [hb]) | skip)
      | (refine Exists.intro ?_ ?_; focus (and_intros <;> first | omega | exact rfl | assumption | (intro _ hh; cases hh; done) | exact all_size (by rfl) | (simp; done) | decide))
      | (intro hfact)
      | (refine Drawn.mk (by kernel_rfl) (fun hfact => ?_)))
    all_goals (try (conv => whnf))
    exact Done.mk ⟨SV.bool_congr (right_no fun h => by have := h.hix; omega).symm, by kernel_rfl⟩ (by kernel_rfl)
  have n1 : ¬ decide (ix < 0) = true := by simp; omega
  by_cases c2 : (1099511627776 : Int) < ix
  · have n2 : ¬ decide ((1099511627776 : Int) < ix) = false := by simp [c2]
    repeat' ((conv => whnf); first
      | (refine And.intro (fun hb => ?_) (fun hb => ?_) <;> first | (exact absurd hb (by first | assumption | decide)) | (rw [hb]) | skip)
      | (refine Exists.intro ?_ ?_; focus (and_intros <;> first | omega | exact rfl | assumption | (intro _ hh; cases hh; done) | exact all_size (by rfl) | (simp; done) | decide))
      | (intro hfact)
      | (refine Drawn.mk (by kernel_rfl) (fun hfact => ?_)))
    all_goals (try (conv => whnf))
    exact Done.mk ⟨SV.bool_congr (right_no fun h => by have := h.hix; omega).symm, by kernel_rfl⟩ (by kernel_rfl)
  have n2 : ¬ decide ((1099511627776 : Int) < ix) = true := by simp; omega
  by_cases c3 : tm < 0
  · have n3 : ¬ decide (tm < 0) = false := by simp [c3]
    repeat' ((conv => whnf); first
      | (refine And.intro (fun hb => ?_) (fun hb => ?_) <;> first | (exact absurd hb (by first | assumption | decide)) | (rw [hb]) | skip)
      | (refine Exists.intro ?_ ?_; focus (and_intros <;> first | omega | exact rfl | assumption | (intro _ hh; cases hh; done) | exact all_size (by rfl) | (simp; done) | decide))
      | (intro hfact)
      | (refine Drawn.mk (by kernel_rfl) (fun hfact => ?_)))
    all_goals (try (conv => whnf))
    exact Done.mk ⟨SV.bool_congr (right_no fun h => by have := h.htm; omega).symm, by kernel_rfl⟩ (by kernel_rfl)
  have n3 : ¬ decide (tm < 0) = true := by simp; omega
  by_cases c4 : (1099511627776 : Int) < tm
  · have n4 : ¬ decide ((1099511627776 : Int) < tm) = false := by simp [c4]
    repeat' ((conv => whnf); first
      | (refine And.intro (fun hb => ?_) (fun hb => ?_) <;> first | (exact absurd hb (by first | assumption | decide)) | (rw [hb]) | skip)
      | (refine Exists.intro ?_ ?_; focus (and_intros <;> first | omega | exact rfl | assumption | (intro _ hh; cases hh; done) | exact all_size (by rfl) | (simp; done) | decide))
      | (intro hfact)
      | (refine Drawn.mk (by kernel_rfl) (fun hfact => ?_)))
    all_goals (try (conv => whnf))
    exact Done.mk ⟨SV.bool_congr (right_no fun h => by have := h.htm; omega).symm, by kernel_rfl⟩ (by kernel_rfl)
  have n4 : ¬ decide ((1099511627776 : Int) < tm) = true := by simp; omega
  by_cases c5 : (4096 : Int) < es.length
  · have n5 : ¬ decide ((4096 : Int) < ((es.map Ent.toI).length : Int)) = false := by simpa using c5
    repeat' ((conv => whnf); first
      | (refine And.intro (fun hb => ?_) (fun hb => ?_) <;> first | (exact absurd hb (by first | assumption | decide)) | (rw [hb]) | skip)
      | (refine Exists.intro ?_ ?_; focus (and_intros <;> first | omega | exact rfl | assumption | (intro _ hh; cases hh; done) | exact all_size (by rfl) | (simp; done) | decide))
      | (intro hfact)
      | (refine Drawn.mk (by kernel_rfl) (fun hfact => ?_)))
    all_goals (try (conv => whnf))
    exact Done.mk ⟨SV.bool_congr (right_no fun h => by have := h.len; omega).symm, by kernel_rfl⟩ (by kernel_rfl)
  have n5 : ¬ decide ((4096 : Int) < ((es.map Ent.toI).length : Int)) = true := by simp; omega
  have hmax : es.length ≤ maxLen := by simp only [maxLen]; omega
  repeat' ((conv => whnf); first
    | (refine And.intro (fun hb => ?_) (fun hb => ?_) <;> first | (exact absurd hb (by first | assumption | decide)) | (rw [hb]) | skip)
    | (refine Exists.intro ?_ ?_; focus (and_intros <;> first | omega | exact rfl | assumption | (intro _ hh; cases hh; done) | exact all_size (by rfl) | (simp; done) | decide))
    | (intro hfact)
    | (refine Drawn.mk (by kernel_rfl) (fun hfact => ?_)))
  all_goals (try (conv => whnf))
  refine LoopWq.by (X := Nat) (fun x => [(3, .v (.int .i64 x))]) (fun x => x ≤ es.length ∧ ∀ (j : Nat) (e : Ent), j < x → es[j]? = some e → entOk e = true) (fun x => es.length - x)
    0 (by kernel_rfl) ⟨Nat.zero_le _, fun j e h => by omega⟩ ?_
  rintro k ⟨h1, h2⟩
  by_cases hk : k < es.length
  · obtain ⟨e, he⟩ : ∃ e, es[k]? = some e := ⟨es[k], List.getElem?_eq_getElem hk⟩
    have hg : (es.map Ent.toI)[Int.toNat (k : Int)]? = some e.toI := ents_get he
    have hlt : ¬ decide ((k : Int) < ((es.map Ent.toI).length : Int)) = false := by simp [hk]
    have hbad : Right ix tm es → 0 ≤ e.i ∧ e.i ≤ 1099511627776 ∧ 0 ≤ e.t ∧ e.t ≤ 1099511627776 ∧ e.d.length ≤ 8192 := by
      intro h
      have := h.at_ k e he
      have := h.hix
      have := h.htm
      omega
    repeat' ((conv => whnf); first
      | (refine And.intro (fun hb => ?_) (fun hb => ?_) <;> first | (exact absurd hb (by first | assumption | decide)) | (rw [hb]) | skip)
      | (refine Exists.intro ?_ ?_; focus (and_intros <;> first | omega | exact rfl | assumption | (intro _ hh; cases hh; done) | exact all_size (by rfl) | (simp; done) | decide))
      | (intro hfact)
      | (refine Drawn.mk (by kernel_rfl) (fun hfact => ?_))
      | ((try dsimp only); rw [hg]))
    all_goals (try (conv => whnf))
    all_goals first
      | (refine Done.mk ⟨SV.bool_congr ?_, by kernel_rfl⟩ (by kernel_rfl)
         refine (right_no fun h => ?_).symm
         have := hbad h
         simp at *
         omega)
      | (refine Round.by (k + 1) ?_ ?_ ?_
         · rw [wrap_succ hk hmax]
           show norm _ _ = upd _ _
           kernel_rfl
         · refine ⟨hk, fun j x hj hx => ?_⟩
           by_cases hjk : j = k
           · subst hjk
             rw [he] at hx
             cases hx
             simp only [entOk, inB, Bool.and_eq_true, Bool.not_eq_true', decide_eq_true_eq, decide_eq_false_iff_not]
             simp at *
             omega
           · exact h2 j x (by omega) hx
         · show es.length - (k + 1) < es.length - k
           omega)
  · have hlt : ¬ decide ((k : Int) < ((es.map Ent.toI).length : Int)) = true := by simp; omega
    have hok : ∀ e ∈ es, entOk e = true := by
      intro e he
      obtain ⟨j, hj, rfl⟩ := List.mem_iff_getElem.1 he
      exact h2 j _ (by omega) (List.getElem?_eq_getElem hj)
    have hi : ∀ e ∈ es, i64r e.i := by
      intro e he
      have := hok e he
      simp only [entOk, inB, Bool.and_eq_true, Bool.not_eq_true', decide_eq_true_eq, decide_eq_false_iff_not] at this
      unfold i64r
      omega
    have hf := spec_rfits ix tm es ⟨by omega, by omega⟩ hi (by omega)
    rw [← right_eq ⟨by omega, by omega⟩ ⟨by omega, by omega⟩ (by omega) hok] at hf
    repeat' ((conv => whnf); first
      | (refine And.intro (fun hb => ?_) (fun hb => ?_) <;> first | (exact absurd hb (by first | assumption | decide)) | (rw [hb]) | skip)
      | (refine Exists.intro ?_ ?_; focus (and_intros <;> first | omega | exact rfl | assumption | (intro _ hh; cases hh; done) | exact all_size (by rfl) | (simp; done) | decide))
      | (intro hfact)
      | (refine Drawn.mk (by kernel_rfl) (fun hfact => ?_))
      | (refine CallWp.mk ⟨_, hf, ?_⟩; rintro _ _ ⟨rfl, rfl⟩))
    all_goals (try (conv => whnf))
    exact Done.mk ⟨rfl, by kernel_rfl⟩ (by kernel_rfl)

theorem spec_rlast (ix tm : Int) (es : List Ent) : Fn Try.prog F_exchequerref11_Log_Last [.v (logI ix tm es)] (Is (.tup [.i (.int .i64 (lastOf ix tm es).1), .i (.int .i64 (lastOf ix tm es).2)]) [.no]) := by
  refine of_exchequerref11_Log_Last ?_ (by simp)
  rcases List.eq_nil_or_concat es with rfl | ⟨es', e, he⟩
  · repeat' ((conv => whnf); first
      | (refine And.intro (fun hb => ?_) (fun hb => ?_) <;> first | (exact absurd hb (by first | assumption | decide)) | (rw [hb]) | skip)
      | (refine Exists.intro ?_ ?_; focus (and_intros <;> first | omega | exact rfl | assumption | (intro _ hh; cases hh; done) | exact all_size (by rfl) | (simp; done) | decide))
      | (intro hfact)
      | (refine Drawn.mk (by kernel_rfl) (fun hfact => ?_)))
    all_goals (try (conv => whnf))
    exact Done.mk ⟨rfl, by kernel_rfl⟩ (by kernel_rfl)
  · rw [List.concat_eq_append] at he
    subst he
    have hn : ¬ decide ((((es' ++ [e]).map Ent.toI).length : Int) = 0) = true := by simp; omega
    have hlen : ((es' ++ [e]).map Ent.toI).length = es'.length + 1 := by simp
    by_cases hm : ((es' ++ [e]).map Ent.toI).length ≤ maxLen
    · have hw : IntKind.i64.wrap ((((es' ++ [e]).map Ent.toI).length : Int) - 1) = (es'.length : Int) := by
        simp only [maxLen] at hm
        rw [wrap_id (by omega)]
        omega
      have h0 : 0 ≤ IntKind.i64.wrap ((((es' ++ [e]).map Ent.toI).length : Int) - 1) := by rw [hw]; omega
      have hg : ((es' ++ [e]).map Ent.toI)[Int.toNat (IntKind.i64.wrap ((((es' ++ [e]).map Ent.toI).length : Int) - 1))]? = some e.toI := by rw [hw]; simp
      repeat' ((conv => whnf); first
        | (refine And.intro (fun hb => ?_) (fun hb => ?_) <;> first | (exact absurd hb (by first | assumption | decide)) | (rw [hb]) | skip)
        | (refine Exists.intro ?_ ?_; focus (and_intros <;> first | omega | exact rfl | assumption | (intro _ hh; cases hh; done) | exact all_size (by rfl) | (simp; done) | decide))
        | (intro hfact)
        | (refine Drawn.mk (by kernel_rfl) (fun hfact => ?_))
        | ((try dsimp only); rw [hg]))
      all_goals (try (conv => whnf))
      refine Done.mk ⟨?_, by kernel_rfl⟩ (by kernel_rfl)
      simp [lastOf, resSV]
    · repeat' ((conv => whnf); first
        | (refine And.intro (fun hb => ?_) (fun hb => ?_) <;> first | (exact absurd hb (by first | assumption | decide)) | (rw [hb]) | skip)
        | (refine Exists.intro ?_ ?_; focus (and_intros <;> first | omega | exact rfl | assumption | (intro _ hh; cases hh; done) | exact all_size (by rfl) | (simp; done) | decide))
        | (intro hfact)
        | (refine Drawn.mk (by kernel_rfl) (fun hfact => ?_)))
      all_goals (try (conv => whnf))
      all_goals exact absurd (by assumption) hm
theorem spec_rnewer (ix tm : Int) (es : List Ent) (index term : Int) : Fn Try.prog F_exchequerref11_Log_Newer [.v (logI ix tm es), .v (.int .i64 index), .v (.int .i64 term)] (Is (.v (.bool (newer ix tm es index term))) [.no, .no, .no]) := by
  refine of_exchequerref11_Log_Newer ?_ (by simp)
  repeat' ((conv => whnf); first
    | (refine And.intro (fun hb => ?_) (fun hb => ?_) <;> first | (exact absurd hb (by first | assumption | decide)) | (rw [hb]) | skip)
    | (refine Exists.intro ?_ ?_; focus (and_intros <;> first | omega | exact rfl | assumption | (intro _ hh; cases hh; done) | exact all_size (by rfl) | (simp; done) | decide))
    | (intro hfact)
    | (refine Drawn.mk (by kernel_rfl) (fun hfact => ?_))
    | (refine CallWp.mk ⟨_, spec_rlast _ _ _, ?_⟩; rintro _ _ ⟨rfl, rfl⟩))
  all_goals (try (conv => whnf))
  all_goals refine Done.mk ⟨SV.bool_congr ?_, by kernel_rfl⟩ (by kernel_rfl)
  all_goals simp_all [newer]
end Go.Ab

