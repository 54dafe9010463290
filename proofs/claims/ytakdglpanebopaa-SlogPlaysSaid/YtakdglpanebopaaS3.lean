/- One text of the proof whose last text says what is proved. -/
import Derived.Test.YtakdglpanebopaaS2
set_option linter.unusedVariables false
set_option linter.unusedSimpArgs false
set_option maxRecDepth 100000
namespace Go.Ab
open Go.Proofs

/-! plain facts of right logs -/
def i64r (n : Int) : Prop := -9223372036854775808 ≤ n ∧ n ≤ 9223372036854775807
theorem inB_iff {n : Int} : inB n = true ↔ 0 ≤ n ∧ n ≤ 1099511627776 := by simp [inB]
theorem w64_eq (n : Int) : w64 n = (n + 9223372036854775808) % 18446744073709551616 - 9223372036854775808 := by
  unfold w64
  rw [IntKind.wrap_i64]
theorem fitsAt_spec {ix : Int} (hix : 0 ≤ ix ∧ ix ≤ 1099511627776) : ∀ {es : List Ent} {k : Nat} {t : Int}, k + es.length ≤ 1000000 → (∀ e ∈ es, i64r e.i) → fitsAt ix k t es = true →
    (∀ (j : Nat) (e : Ent), es[j]? = some e → e.i = ix + 1 + k + j ∧ t ≤ e.t) ∧ ∀ (j j' : Nat) (e e' : Ent), j ≤ j' → es[j]? = some e → es[j']? = some e' → e.t ≤ e'.t
  | [], k, t, _, _, _ => ⟨fun j e h => by simp at h, fun j j' e e' _ h => by simp at h⟩
  | e :: r, k, t, hk, hr, h => by
    simp only [List.length_cons] at hk
    simp only [fitsAt, Bool.and_eq_true, Bool.not_eq_true', Bool.or_eq_false_iff, decide_eq_false_iff_not, Decidable.not_not] at h
    obtain ⟨⟨h1, h2⟩, h3⟩ := h
    have he : e.i = ix + 1 + k := by
      have := hr e (List.mem_cons_self ..)
      unfold i64r at this
      rw [w64_eq, w64_eq] at h1
      omega
    obtain ⟨h4, h5⟩ := fitsAt_spec hix (es := r) (k := k + 1) (by omega) (fun e he => hr e (List.mem_cons_of_mem _ he)) h3
    refine ⟨fun j e' hj => ?_, fun j j' x x' hle hj hj' => ?_⟩
    · cases j with
      | zero => cases hj; exact ⟨by omega, by omega⟩
      | succ j =>
        obtain ⟨g1, g2⟩ := h4 j e' hj
        exact ⟨by omega, by omega⟩
    · cases j with
      | zero =>
        cases hj
        cases j' with
        | zero => cases hj'; exact Int.le_refl _
        | succ j' => exact (h4 j' x' hj').2
      | succ j =>
        cases j' with
        | zero => omega
        | succ j' => exact h5 j j' x x' (by omega) hj hj'
structure Right (ix tm : Int) (es : List Ent) : Prop where
  hix : 0 ≤ ix ∧ ix ≤ 1099511627776
  htm : 0 ≤ tm ∧ tm ≤ 1099511627776
  len : es.length ≤ 4096
  at_ : ∀ (j : Nat) (e : Ent), es[j]? = some e → e.i = ix + 1 + j ∧ tm ≤ e.t ∧ e.t ≤ 1099511627776 ∧ e.i ≤ 1099511627776 ∧ e.d.length ≤ 8192
  mono : ∀ (j j' : Nat) (e e' : Ent), j ≤ j' → es[j]? = some e → es[j']? = some e' → e.t ≤ e'.t
theorem right_spec {ix tm : Int} {es : List Ent} (h : right ix tm es = true) : Right ix tm es := by
  simp only [right, Bool.and_eq_true, Bool.not_eq_true', decide_eq_false_iff_not, Int.not_lt] at h
  obtain ⟨⟨⟨⟨h1, h2⟩, h3⟩, h4⟩, h5⟩ := h
  have h1 := inB_iff.1 h1
  have h2 := inB_iff.1 h2
  have hok : ∀ e ∈ es, (0 ≤ e.i ∧ e.i ≤ 1099511627776) ∧ (0 ≤ e.t ∧ e.t ≤ 1099511627776) ∧ e.d.length ≤ 8192 := by
    intro e he
    have := List.all_eq_true.1 h4 e he
    simp only [entOk, Bool.and_eq_true, Bool.not_eq_true', decide_eq_false_iff_not, Int.not_lt] at this
    exact ⟨inB_iff.1 this.1.1, inB_iff.1 this.1.2, by omega⟩
  obtain ⟨h6, h7⟩ := fitsAt_spec h1 (es := es) (k := 0) (by omega) (fun e he => by have := hok e he; unfold i64r; omega) h5
  refine ⟨h1, h2, by omega, fun j e hj => ?_, h7⟩
  have g1 := h6 j e hj
  have g2 := hok e (List.mem_of_getElem? hj)
  exact ⟨by omega, g1.2, by omega, by omega, g2.2.2⟩
theorem fitsAt_of {ix : Int} (hix : 0 ≤ ix ∧ ix ≤ 1099511627776) : ∀ {es : List Ent} {k : Nat} {t : Int}, k + es.length ≤ 1000000 → (∀ (j : Nat) (e : Ent), es[j]? = some e → e.i = ix + 1 + k + j ∧ t ≤ e.t) →
    (∀ (j j' : Nat) (e e' : Ent), j ≤ j' → es[j]? = some e → es[j']? = some e' → e.t ≤ e'.t) → fitsAt ix k t es = true
  | [], k, t, _, _, _ => rfl
  | e :: r, k, t, hk, h1, h2 => by
    simp only [List.length_cons] at hk
    have h0 := h1 0 e rfl
    have hw : w64 (w64 (e.i - 1) - k) = ix := by rw [w64_eq, w64_eq]; omega
    simp only [fitsAt, hw, ne_eq, not_true_eq_false, decide_false, Bool.false_or, Bool.and_eq_true, Bool.not_eq_true', decide_eq_false_iff_not, Int.not_lt]
    refine ⟨h0.2, fitsAt_of hix (by omega) (fun j e' hj => ?_) (fun j j' x x' hle hj hj' => h2 (j + 1) (j' + 1) x x' (by omega) hj hj')⟩
    exact ⟨by have := (h1 (j + 1) e' hj).1; omega, h2 0 (j + 1) e e' (by omega) rfl hj⟩
theorem Right.right {ix tm : Int} {es : List Ent} (h : Right ix tm es) : Ab.right ix tm es = true := by
  simp only [Ab.right, Bool.and_eq_true, Bool.not_eq_true', decide_eq_false_iff_not, Int.not_lt]
  refine ⟨⟨⟨⟨inB_iff.2 h.hix, inB_iff.2 h.htm⟩, by have := h.len; omega⟩, ?_⟩, fitsAt_of h.hix (by have := h.len; omega) (fun j e hj => ?_) h.mono⟩
  · rw [List.all_eq_true]
    intro e he
    obtain ⟨j, hj, rfl⟩ := List.mem_iff_getElem.1 he
    have := h.at_ j _ (List.getElem?_eq_getElem hj)
    have h1 := h.hix
    have h2 := h.htm
    simp only [entOk, Bool.and_eq_true, Bool.not_eq_true', decide_eq_false_iff_not, Int.not_lt]
    exact ⟨⟨inB_iff.2 (by omega), inB_iff.2 (by omega)⟩, by omega⟩
  · have := h.at_ j e hj
    exact ⟨by omega, this.2.1⟩
theorem Right.last {ix tm : Int} {es : List Ent} (h : Right ix tm es) : (lastOf ix tm es).1 = ix + es.length := by
  rcases List.eq_nil_or_concat es with rfl | ⟨es', e, he⟩
  · simp [lastOf]
  · rw [List.concat_eq_append] at he
    subst he
    have := h.at_ es'.length e (by simp)
    simp [lastOf]
    omega

/-- The term at an index. -/
def termAt (ix tm : Int) (es : List Ent) (i : Int) : Int × Bool :=
  if i < ix ∨ ix + es.length < i then (0, false) else if i = ix then (tm, true) else match es[(i - ix - 1).toNat]? with
    | some e => (e.t, true)
    | none => (0, false)
def pairI (p : Int × Bool) : SV := .tup [.i (.int .i64 p.1), .i (.bool p.2)]
theorem spec_term (ix tm : Int) (es : List Ent) (i : Int) (h : Right ix tm es) : Fn Try.prog F_slog_Log_Term [.v (logI ix tm es), .v (.int .i64 i)] (Is (pairI (termAt ix tm es i)) [.no, .no]) := by
  refine of_slog_Log_Term ?_ (by simp)
  have hl := h.last
  have hix := h.hix
  have hlen := h.len
  by_cases h1 : i < ix
  · have n1 : ¬ decide (i < ix) = false := by simp [h1]
    repeat' ((conv => whnf); first
      | (refine And.intro (fun hb => ?_) (fun hb => ?_) <;> first | (exact absurd hb (by first | assumption | decide)) | (rw [hb]) | skip)
      | (refine Exists.intro ?_ ?_; focus (and_intros <;> first | omega | exact rfl | assumption | (intro _ hh; cases hh; done) | exact all_size (by rfl) | (simp; done) | decide))
      | (intro hfact)
      | (refine Drawn.mk (by kernel_rfl) (fun hfact => ?_))
      | (refine CallWp.mk ⟨_, spec_last _ _ _, ?_⟩; rintro _ _ ⟨rfl, rfl⟩))
    all_goals (try (conv => whnf))
    exact Done.mk ⟨by simp [termAt, h1, pairI, resSV], by kernel_rfl⟩ (by kernel_rfl)
  have n1 : ¬ decide (i < ix) = true := by simp; omega
  by_cases h2 : ix + es.length < i
  · have n2 : ¬ decide ((lastOf ix tm es).1 < i) = false := by simp [hl, h2]
    repeat' ((conv => whnf); first
      | (refine And.intro (fun hb => ?_) (fun hb => ?_) <;> first | (exact absurd hb (by first | assumption | decide)) | (rw [hb]) | skip)
      | (refine Exists.intro ?_ ?_; focus (and_intros <;> first | omega | exact rfl | assumption | (intro _ hh; cases hh; done) | exact all_size (by rfl) | (simp; done) | decide))
      | (intro hfact)
      | (refine Drawn.mk (by kernel_rfl) (fun hfact => ?_))
      | (refine CallWp.mk ⟨_, spec_last _ _ _, ?_⟩; rintro _ _ ⟨rfl, rfl⟩))
    all_goals (try (conv => whnf))
    exact Done.mk ⟨by simp [termAt, h2, pairI, resSV], by kernel_rfl⟩ (by kernel_rfl)
  have n2 : ¬ decide ((lastOf ix tm es).1 < i) = true := by rw [hl]; simp; omega
  by_cases h3 : i = ix
  · have n3 : ¬ decide (i = ix) = false := by simp [h3]
    repeat' ((conv => whnf); first
      | (refine And.intro (fun hb => ?_) (fun hb => ?_) <;> first | (exact absurd hb (by first | assumption | decide)) | (rw [hb]) | skip)
      | (refine Exists.intro ?_ ?_; focus (and_intros <;> first | omega | exact rfl | assumption | (intro _ hh; cases hh; done) | exact all_size (by rfl) | (simp; done) | decide))
      | (intro hfact)
      | (refine Drawn.mk (by kernel_rfl) (fun hfact => ?_))
      | (refine CallWp.mk ⟨_, spec_last _ _ _, ?_⟩; rintro _ _ ⟨rfl, rfl⟩))
    all_goals (try (conv => whnf))
    refine Done.mk ⟨?_, by kernel_rfl⟩ (by kernel_rfl)
    rw [termAt, if_neg (by omega), if_pos h3]
    rfl
  have n3 : ¬ decide (i = ix) = true := by simp [h3]
  have hw : w64 (w64 (i - ix) - 1) = i - ix - 1 := by rw [w64_eq, w64_eq]; omega
  obtain ⟨e, he⟩ : ∃ e, es[(i - ix - 1).toNat]? = some e := ⟨_, List.getElem?_eq_getElem (by omega)⟩
  have hg : (es.map Ent.toI)[Int.toNat (IntKind.i64.wrap (IntKind.i64.wrap (i - ix) - 1))]? = some e.toI := by
    rw [show IntKind.i64.wrap (IntKind.i64.wrap (i - ix) - 1) = i - ix - 1 from hw]
    exact ents_get he
  have h0 : 0 ≤ IntKind.i64.wrap (IntKind.i64.wrap (i - ix) - 1) := by
    rw [show IntKind.i64.wrap (IntKind.i64.wrap (i - ix) - 1) = i - ix - 1 from hw]
    omega
  repeat' ((conv => whnf); first
    | (refine And.intro (fun hb => ?_) (fun hb => ?_) <;> first | (exact absurd hb (by first | assumption | decide)) | (rw [hb]) | skip)
    | (refine Exists.intro ?_ ?_; focus (and_intros <;> first | omega | exact rfl | assumption | (intro _ hh; cases hh; done) | exact all_size (by rfl) | (simp; done) | decide))
    | (intro hfact)
    | (refine Drawn.mk (by kernel_rfl) (fun hfact => ?_))
    | (refine CallWp.mk ⟨_, spec_last _ _ _, ?_⟩; rintro _ _ ⟨rfl, rfl⟩)
    | ((try dsimp only); rw [hg]))
  all_goals (try (conv => whnf))
  refine Done.mk ⟨?_, by kernel_rfl⟩ (by kernel_rfl)
  rw [termAt, if_neg (by omega), if_neg h3, he]
  rfl
end Go.Ab

