/- One text of the proof whose last text says what is proved. -/
import Derived.Test.YtakdglpanebopaaS9
set_option linter.unusedVariables false
set_option linter.unusedSimpArgs false
set_option maxRecDepth 100000
namespace Go.Ab

/-! plain facts of logs that are cut and put into -/
theorem termAt_iff {ix tm : Int} {es : List Ent} (i : Int) : (termAt ix tm es i).2 = true ↔ ix ≤ i ∧ i ≤ ix + es.length := by
  constructor
  · exact termAt_ok
  · intro h
    unfold termAt
    rw [if_neg (by omega)]
    split
    · rfl
    · rw [List.getElem?_eq_getElem (by omega)]
theorem termAt_base (ix tm : Int) (es : List Ent) : termAt ix tm es ix = (tm, true) := by
  unfold termAt
  rw [if_neg (by omega), if_pos rfl]
theorem termAt_get {ix tm : Int} {es : List Ent} {i : Int} {j : Nat} {e : Ent} (h : es[j]? = some e) (hi : i = ix + 1 + j) : termAt ix tm es i = (e.t, true) := by
  have := (List.getElem?_eq_some_iff.1 h).1
  unfold termAt
  rw [if_neg (by omega), if_neg (by omega), show (i - ix - 1).toNat = j from by omega, h]
theorem termAt_out {ix tm : Int} {es : List Ent} {i : Int} (h : i < ix ∨ ix + es.length < i) : termAt ix tm es i = (0, false) := by
  unfold termAt
  rw [if_pos h]
theorem lastOf_eq {ix tm : Int} {es : List Ent} (h : Right ix tm es) : lastOf ix tm es = (ix + es.length, (termAt ix tm es (ix + es.length)).1) := by
  rcases List.eq_nil_or_concat es with rfl | ⟨es', e, he⟩
  · simp [lastOf, termAt]
  · rw [List.concat_eq_append] at he
    subst he
    have h1 := h.last
    have h2 : (es' ++ [e])[es'.length]? = some e := by simp
    rw [termAt_get h2 (by simp; omega)]
    refine Prod.ext h1 ?_
    simp [lastOf]
theorem termAt_cut {ix tm : Int} {es : List Ent} {i k : Int} (hi : ix ≤ i ∧ i ≤ ix + es.length) (hk : i ≤ k) : termAt i (termAt ix tm es i).1 (es.drop (i - ix).toNat) k = termAt ix tm es k := by
  by_cases h1 : ix + es.length < k
  · rw [termAt_out (.inr h1), termAt_out (.inr (by rw [List.length_drop]; omega))]
  by_cases h2 : k = i
  · subst h2
    rw [termAt_base]
    exact Prod.ext rfl ((termAt_iff k).2 hi).symm
  obtain ⟨e, he⟩ : ∃ e, es[(k - ix - 1).toNat]? = some e := ⟨_, List.getElem?_eq_getElem (by omega)⟩
  rw [termAt_get (ix := ix) (tm := tm) (i := k) he (by omega)]
  refine termAt_get (j := (k - i - 1).toNat) ?_ ?_
  · rw [List.getElem?_drop, ← he]
    congr 1
    omega
  · omega
theorem termAt_term {ix tm : Int} {es : List Ent} (h : Right ix tm es) {i : Int} (hi : ix ≤ i ∧ i ≤ ix + es.length) : tm ≤ (termAt ix tm es i).1 ∧ (termAt ix tm es i).1 ≤ 1099511627776 ∧ i ≤ 1099511627776 := by
  by_cases h2 : i = ix
  · subst h2
    rw [termAt_base]
    exact ⟨Int.le_refl _, h.htm.2, h.hix.2⟩
  obtain ⟨e, he⟩ : ∃ e, es[(i - ix - 1).toNat]? = some e := ⟨_, List.getElem?_eq_getElem (by omega)⟩
  rw [termAt_get he (by omega)]
  have := h.at_ _ _ he
  exact ⟨this.2.1, this.2.2.1, by omega⟩
theorem termAt_le {ix tm : Int} {es : List Ent} (h : Right ix tm es) {i : Int} (hi : ix ≤ i) {j : Nat} {e : Ent} (he : es[j]? = some e) (hj : i ≤ ix + 1 + j) : (termAt ix tm es i).1 ≤ e.t := by
  have hl := (List.getElem?_eq_some_iff.1 he).1
  by_cases h2 : i = ix
  · subst h2
    rw [termAt_base]
    exact (h.at_ _ _ he).2.1
  obtain ⟨f, hf⟩ : ∃ e, es[(i - ix - 1).toNat]? = some e := ⟨_, List.getElem?_eq_getElem (by omega)⟩
  rw [termAt_get hf (by omega)]
  exact h.mono _ _ _ _ (by omega) hf he
theorem Right.cut {ix tm : Int} {es : List Ent} (h : Right ix tm es) {i : Int} (hi : ix ≤ i ∧ i ≤ ix + es.length) : Right i (termAt ix tm es i).1 (es.drop (i - ix).toNat) := by
  have h1 := h.hix
  have h2 := h.htm
  have h3 := h.len
  have h4 := termAt_term h hi
  refine ⟨by omega, by omega, by rw [List.length_drop]; omega, fun j e hj => ?_, fun j j' e e' hle hj hj' => ?_⟩
  · rw [List.getElem?_drop] at hj
    have := h.at_ _ _ hj
    have := termAt_le h hi.1 hj (by omega)
    omega
  · rw [List.getElem?_drop] at hj hj'
    exact h.mono _ _ _ _ (by omega) hj hj'
theorem lastOf_cut {ix tm : Int} {es : List Ent} (h : Right ix tm es) {i : Int} (hi : ix ≤ i ∧ i ≤ ix + es.length) : lastOf i (termAt ix tm es i).1 (es.drop (i - ix).toNat) = lastOf ix tm es := by
  rw [lastOf_eq h, lastOf_eq (h.cut hi)]
  have he : i + ((es.drop (i - ix).toNat).length : Int) = ix + es.length := by rw [List.length_drop]; omega
  rw [he, termAt_cut hi hi.2]
theorem from_all {ix tm : Int} {es : List Ent} (h : Right ix tm es) {i : Int} (hi : i ≤ ix + 1) : fromM ix es i 9999 = es := by
  have h3 := h.len
  unfold fromM
  split
  · rename_i hc
    have : es = [] := List.eq_nil_of_length_eq_zero (by omega)
    rw [this]
  · rw [show (max i (ix + 1) - ix - 1).toNat = 0 from by omega, List.drop_zero, List.take_of_length_le (by omega)]
theorem from_drop {ix tm : Int} {es : List Ent} (h : Right ix tm es) {i : Int} (hi : ix ≤ i) : fromM ix es (i + 1) 9999 = es.drop (i - ix).toNat := by
  have h3 := h.len
  unfold fromM
  split
  · rw [List.drop_eq_nil_of_le (by omega)]
  · rw [show (max (i + 1) (ix + 1) - ix - 1).toNat = (i - ix).toNat from by omega, List.take_of_length_le (by rw [List.length_drop]; omega)]
theorem right_append {ix tm : Int} {es m : List Ent} (h : Right ix tm es) (hm : ∀ e ∈ m, i64r e.i) (hf : fitsAt (lastOf ix tm es).1 0 (lastOf ix tm es).2 m = true) (hl : es.length + m.length ≤ 4096) :
    right ix tm (es ++ m) = m.all entOk := by
  rw [Bool.eq_iff_iff]
  constructor
  · intro hr
    simp only [right, Bool.and_eq_true, List.all_append] at hr
    exact hr.1.2.2
  · intro ha
    refine Right.right ?_
    have hlast := lastOf_eq h
    have hb := termAt_term h (i := ix + es.length) (by omega)
    have h1 := h.hix
    have h2 := h.htm
    obtain ⟨f1, f2⟩ := fitsAt_spec (by rw [hlast]; show 0 ≤ ix + (es.length : Int) ∧ _; omega) (by omega) hm hf
    rw [hlast] at f1
    simp only at f1
    have hok : ∀ e ∈ m, (0 ≤ e.i ∧ e.i ≤ 1099511627776) ∧ (0 ≤ e.t ∧ e.t ≤ 1099511627776) ∧ e.d.length ≤ 8192 := by
      intro e he
      have := List.all_eq_true.1 ha e he
      simp only [entOk, Bool.and_eq_true, Bool.not_eq_true', decide_eq_false_iff_not, Int.not_lt] at this
      exact ⟨inB_iff.1 this.1.1, inB_iff.1 this.1.2, by omega⟩
    refine ⟨h1, h2, by simpa using hl, fun j e hj => ?_, fun j j' e e' hle hj hj' => ?_⟩
    · by_cases hlt : j < es.length
      · rw [List.getElem?_append_left hlt] at hj
        exact h.at_ j e hj
      · rw [List.getElem?_append_right (by omega)] at hj
        have := f1 _ e hj
        have := hok e (List.mem_of_getElem? hj)
        omega
    · by_cases hlt' : j' < es.length
      · rw [List.getElem?_append_left hlt'] at hj'
        rw [List.getElem?_append_left (by omega)] at hj
        exact h.mono j j' e e' hle hj hj'
      · rw [List.getElem?_append_right (by omega)] at hj'
        by_cases hlt : j < es.length
        · rw [List.getElem?_append_left hlt] at hj
          have g1 := (f1 _ e' hj').2
          by_cases hz : es = []
          · subst hz; simp at hlt
          · obtain ⟨e1, he1⟩ : ∃ e1, es[es.length - 1]? = some e1 := ⟨_, List.getElem?_eq_getElem (by omega)⟩
            rw [termAt_get he1 (by omega)] at g1
            have := h.mono j _ _ _ (by omega) hj he1
            exact Int.le_trans this g1
        · rw [List.getElem?_append_right (by omega)] at hj
          exact f2 _ _ _ _ (by omega) hj hj'
theorem putM_last {ix tm : Int} {es m : List Ent} (h : Right ix tm es) (hm : ∀ e ∈ m, i64r e.i) (hl : m.length ≤ 100000) :
    putM ix tm es (lastOf ix tm es).1 (lastOf ix tm es).2 m =
      if fitsAt (lastOf ix tm es).1 0 (lastOf ix tm es).2 m = true ∧ right ix tm (es ++ m) = true then (es ++ m, (lastOf ix tm es).1 + m.length, true) else (es, 0, false) := by
  have hlast := lastOf_eq h
  have hb := termAt_term h (i := ix + es.length) (by omega)
  have h1 := h.hix
  have h2 := h.htm
  have h3 := h.len
  have hi : inB (lastOf ix tm es).1 = true := by rw [hlast]; exact inB_iff.2 ⟨by show 0 ≤ ix + (es.length : Int); omega, hb.2.2⟩
  have ht : inB (lastOf ix tm es).2 = true := by rw [hlast]; exact inB_iff.2 ⟨by show 0 ≤ (termAt ix tm es (ix + es.length)).1; omega, hb.2.1⟩
  unfold putM
  by_cases hf : fitsAt (lastOf ix tm es).1 0 (lastOf ix tm es).2 m = true
  case neg =>
    rw [if_neg (fun hh => hf hh.2.2), if_neg (fun hh => hf hh.1)]
  rw [if_pos ⟨hi, ht, hf⟩]
  have hf' := hf
  rw [hlast] at hf ⊢
  simp only
  rw [if_neg (by omega), if_pos ⟨(termAt_iff _).2 (by omega), trivial⟩]
  unfold putEnd
  rcases m with _ | ⟨e, r⟩
  · simp only [putLoop, List.append_nil, List.length_nil]
    rw [if_pos ⟨rfl, h.right⟩, show max (ix + (es.length : Int) + ((0 : Nat) : Int)) ix = ix + es.length + ((0 : Nat) : Int) from by omega]
  · obtain ⟨f1, f2⟩ := fitsAt_spec (by omega) (by omega) hm hf
    have he := (f1 0 e rfl).1
    have hout : termAt ix tm es e.i = (0, false) := termAt_out (.inr (by omega))
    simp only [putLoop, hout]
    simp only [Bool.false_eq_true, false_and, if_false]
    rw [List.take_of_length_le (by omega)]
    by_cases hr : right ix tm (es ++ e :: r) = true
    · rw [if_pos hr, if_pos ⟨hf, hr⟩, show max (ix + (es.length : Int) + ((e :: r).length : Int)) ix = ix + es.length + ((e :: r).length : Int) from by omega]
    · rw [if_neg hr, if_neg (fun hh => hr hh.2)]
end Go.Ab
