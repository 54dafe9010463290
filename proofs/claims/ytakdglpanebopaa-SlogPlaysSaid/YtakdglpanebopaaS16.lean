/- One text of the proof whose last text says what is proved. -/
import Derived.Test.YtakdglpanebopaaS14
set_option linter.unusedVariables false
set_option linter.unusedSimpArgs false
set_option maxRecDepth 100000
namespace Go.Ab

theorem putLoop_spec {ix tm : Int} {es : List Ent} : ∀ {m : List Ent} {p : Nat}, (∀ (j : Nat) (e : Ent), m[j]? = some e → e.i = ix + 1 + p + j) → p ≤ es.length →
    (putLoop ix tm es m = none ∧ ∀ (j : Nat) (e : Ent), m[j]? = some e → ∃ a, es[p + j]? = some a ∧ a.t = e.t) ∨
    (∃ j0, j0 < m.length ∧ p + j0 ≤ es.length ∧ putLoop ix tm es m = some (es.take (p + j0) ++ m.drop j0) ∧ (∀ (j : Nat) (e : Ent), j < j0 → m[j]? = some e → ∃ a, es[p + j]? = some a ∧ a.t = e.t) ∧
      ∀ a e, es[p + j0]? = some a → m[j0]? = some e → a.t ≠ e.t)
  | [], p, hi, hp => .inl ⟨rfl, fun j e h => by simp at h⟩
  | e :: r, p, hi, hp => by
    have he := hi 0 e rfl
    unfold putLoop
    by_cases h : (termAt ix tm es e.i).2 = true ∧ (termAt ix tm es e.i).1 = e.t
    · rw [if_pos h]
      have hr := (termAt_iff _).1 h.1
      obtain ⟨a, ha⟩ : ∃ a, es[p]? = some a := ⟨_, List.getElem?_eq_getElem (by omega)⟩
      have hta := termAt_get (ix := ix) (tm := tm) (i := e.i) ha (by omega)
      have hat : a.t = e.t := by rw [← h.2, hta]
      have hz : ∀ (j : Nat) (x : Ent), j < 1 → (e :: r)[j]? = some x → ∃ a, es[p + j]? = some a ∧ a.t = x.t := by
        intro j x hj hx
        have : j = 0 := by omega
        subst this
        cases hx
        exact ⟨a, ha, hat⟩
      rcases putLoop_spec (ix := ix) (tm := tm) (es := es) (m := r) (p := p + 1) (fun j x hj => by have := hi (j + 1) x hj; omega) (by omega) with ⟨h1, h2⟩ | ⟨j0, h1, h2, h3, h4, h5⟩
      · refine .inl ⟨h1, fun j x hj => ?_⟩
        cases j with
        | zero => exact hz 0 x (by omega) hj
        | succ j => have := h2 j x hj; rwa [Nat.add_assoc, Nat.add_comm 1 j] at this
      · refine .inr ⟨j0 + 1, by simpa using h1, by omega, ?_, fun j x hlt hj => ?_, fun x y hx hy => ?_⟩
        · rw [h3, List.drop_succ_cons, Nat.add_assoc, Nat.add_comm 1 j0]
        · cases j with
          | zero => exact hz 0 x (by omega) hj
          | succ j => have := h4 j x (by omega) hj; rwa [Nat.add_assoc, Nat.add_comm 1 j] at this
        · exact h5 x y (by rwa [Nat.add_assoc, Nat.add_comm 1 j0]) hy
    · rw [if_neg h]
      refine .inr ⟨0, by simp, by omega, ?_, fun j x hlt hj => by omega, fun x y hx hy => ?_⟩
      · rw [show (e.i - ix - 1).toNat = p + 0 from by omega]
        rfl
      · cases hy
        intro hxy
        refine h ?_
        rw [termAt_get (ix := ix) (tm := tm) (i := e.i) hx (by omega)]
        exact ⟨rfl, hxy⟩

/-- Does the entry at k differ? -/
def differAt (l m : List Ent) (p k : Nat) : Bool := match l[p + k]?, m[k]? with
  | some a, some b => !decide (a.t = b.t)
  | _, _ => true
def differs (l m : List Ent) (p k : Nat) : Bool := (List.range k).any (differAt l m p)
theorem differs_succ (l m : List Ent) (p k : Nat) : differs l m p (k + 1) = (differs l m p k || differAt l m p k) := by
  simp [differs, List.range_succ]
theorem differs_none {l m : List Ent} {p : Nat} (h : ∀ (j : Nat) (e : Ent), m[j]? = some e → ∃ a, l[p + j]? = some a ∧ a.t = e.t) : differs l m p m.length = false := by
  unfold differs
  rw [List.any_eq_false]
  intro j hj
  obtain ⟨e, he⟩ : ∃ e, m[j]? = some e := ⟨_, List.getElem?_eq_getElem (List.mem_range.1 hj)⟩
  obtain ⟨a, ha, hat⟩ := h j e he
  simp [differAt, ha, he, hat]
theorem differs_some {l m : List Ent} {p j0 : Nat} (hj : j0 < m.length) (h : ∀ a e, l[p + j0]? = some a → m[j0]? = some e → a.t ≠ e.t) : differs l m p m.length = true := by
  unfold differs
  rw [List.any_eq_true]
  refine ⟨j0, List.mem_range.2 hj, ?_⟩
  obtain ⟨e, he⟩ : ∃ e, m[j0]? = some e := ⟨_, List.getElem?_eq_getElem hj⟩
  unfold differAt
  rw [he]
  split
  · rename_i a b ha hb
    have := h a b ha (by rw [he]; exact hb)
    simp [this]
  · rfl

theorem putM_agrees {l m : List Ent} {index : Int} (h : Right 0 0 l) (hm : ∀ e ∈ m, i64r e.i) (hl : m.length ≤ 100000) {got : List Ent} {at_ : Int} {is : Bool}
    (hp : putM 0 0 l index (termAt 0 0 l index).1 m = (got, at_, is)) :
    (is = false ∧ got = l) ∨ (is = true ∧ ∃ p : Nat, index = p ∧ p ≤ l.length ∧ at_ = p + m.length ∧ Right 0 0 got ∧ p + m.length ≤ got.length ∧ got.take p = l.take p ∧
      (∀ (k : Nat) (e : Ent), m[k]? = some e → ∃ a, got[p + k]? = some a ∧ a.i = e.i ∧ a.t = e.t) ∧
      (differs l m p m.length = false ∧ got = l ∨ differs l m p m.length = true ∧ got.length = p + m.length)) := by
  have h3 := h.len
  unfold putM at hp
  split at hp
  case isFalse => cases hp; exact .inl ⟨rfl, rfl⟩
  rename_i hc
  obtain ⟨hc1, hc2, hc3⟩ := hc
  have hi := inB_iff.1 hc1
  obtain ⟨f1, f2⟩ := fitsAt_spec hi (by omega) hm hc3
  rw [if_neg (by omega)] at hp
  split at hp
  case isFalse => cases hp; exact .inl ⟨rfl, rfl⟩
  rename_i hd
  have hr := (termAt_iff _).1 hd.1
  obtain ⟨p, rfl⟩ : ∃ p : Nat, index = p := ⟨index.toNat, by omega⟩
  have hmi : ∀ (j : Nat) (e : Ent), m[j]? = some e → e.i = 0 + 1 + p + j := fun j e hj => by have := (f1 j e hj).1; omega
  have hmax : max ((p : Int) + (m.length : Int)) 0 = (p : Int) + m.length := by omega
  rw [hmax] at hp
  unfold putEnd at hp
  rcases putLoop_spec (ix := 0) (tm := 0) (es := l) (m := m) (p := p) hmi (by omega) with ⟨h1, h2⟩ | ⟨j0, h1, h2, h3', h4, h5⟩
  · rw [h1] at hp
    cases hp
    refine .inr ⟨rfl, p, rfl, by omega, rfl, h, ?_, rfl, fun k e hk => ?_, .inl ⟨differs_none h2, rfl⟩⟩
    · rcases List.eq_nil_or_concat m with rfl | ⟨m', e, he⟩
      · simp; omega
      · rw [List.concat_eq_append] at he
        subst he
        obtain ⟨a, ha, _⟩ := h2 m'.length e (by simp)
        have := (List.getElem?_eq_some_iff.1 ha).1
        simp
        omega
    · obtain ⟨a, ha, hat⟩ := h2 k e hk
      refine ⟨a, ha, ?_, hat⟩
      have g1 := (h.at_ _ _ ha).1
      have g2 := hmi k e hk
      omega
  · rw [h3'] at hp
    simp only at hp
    split at hp
    case isFalse => cases hp; exact .inl ⟨rfl, rfl⟩
    rename_i hrt
    cases hp
    have hlen : (l.take (p + j0) ++ m.drop j0).length = p + m.length := by
      rw [List.length_append, List.length_take, List.length_drop]
      omega
    refine .inr ⟨rfl, p, rfl, by omega, rfl, right_spec hrt, by omega, ?_, fun k e hk => ?_, .inr ⟨differs_some h1 h5, hlen⟩⟩
    · rw [List.take_append_of_le_length (by rw [List.length_take]; omega), List.take_take, Nat.min_eq_left (by omega)]
    · by_cases hkj : k < j0
      · obtain ⟨a, ha, hat⟩ := h4 k e hkj hk
        refine ⟨a, ?_, ?_, hat⟩
        · rw [List.getElem?_append_left (by rw [List.length_take]; omega), List.getElem?_take, if_pos (by omega), ha]
        · have g1 := (h.at_ _ _ ha).1
          have g2 := hmi k e hk
          omega
      · refine ⟨e, ?_, rfl, rfl⟩
        rw [List.getElem?_append_right (by rw [List.length_take]; omega), List.getElem?_drop, ← hk]
        congr 1
        rw [List.length_take]
        omega
end Go.Ab
