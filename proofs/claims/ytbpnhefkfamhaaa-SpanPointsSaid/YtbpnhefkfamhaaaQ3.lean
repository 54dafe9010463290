/- One text of the proof whose last text says what is proved. -/
import Derived.Test.YtbpnhefkfamhaaaQ2
set_option linter.unusedVariables false
set_option linter.unusedSimpArgs false
set_option maxRecDepth 100000
namespace Go.Ab

theorem canon_end : ∀ {l : List Sp}, Canon l → ∀ x ∈ l, x.t ≠ [] → ¬ Keys l x.t
  | [], _, x, hx, _ => by cases hx
  | s :: r, h, x, hx, ht => by
    rcases List.mem_cons.1 hx with rfl | hx'
    · exact h.end ht
    · intro hk
      obtain ⟨y, hy, hyk⟩ := hk
      rcases List.mem_cons.1 hy with he | hy'
      · have h1 := h.gap x hx'
        have h2 := h.tail.1 x hx'
        have h3 := hyk.2
        unfold Sane at h2
        rw [he] at h3
        grind
      · exact canon_end h.tail x hx' ht ⟨y, hy', hyk⟩
theorem cov_iff (l : List Sp) (s : Sp) : (∃ u ∈ uni l, SpIn s u) ↔ RCov l s := by
  rw [rCov_iff]
  constructor
  · rintro ⟨u, hu, h⟩
    refine ⟨h.1, fun k hk => (uni_keys l k).1 ⟨u, hu, ?_⟩⟩
    exact (inside_iff h.1 h.2.1).1 ⟨h.2.2.1, h.2.2.2⟩ k hk
  · rintro ⟨hr, h⟩
    have h0 : SpH s s.f := ⟨Std.le_refl _, hr.2.2⟩
    obtain ⟨u, hu, huk⟩ := (uni_keys l _).2 (h _ h0)
    have hur := uni_right u hu
    refine ⟨u, hu, hr, hur, (inside_iff hr hur).2 fun k hk => ?_⟩
    by_cases ht : u.t = []
    · have h1 := huk.1
      have h2 := hk.1
      exact ⟨by grind, .inl ht⟩
    · have h3 := canon_end (uni_canon l) u hu ht
      rw [uni_keys] at h3
      by_cases h4 : k < u.t
      · have h1 := huk.1
        have h2 := hk.1
        exact ⟨by grind, .inr h4⟩
      · refine absurd (h _ ⟨?_, ?_⟩) h3
        · have := huk.2
          grind
        · have := hk.2
          grind

def maxS (a b : Str) : Str := if (!Op.bytesLess a b) = true then a else b
theorem maxS_eq (a b : Str) : maxS a b = if a < b then b else a := by
  unfold maxS
  rw [bless_eq]
  by_cases h : a < b <;> simp [h]
def cutA (s x : Sp) : List Sp := if x.f < s.f then [⟨x.f, if EndGt x.t s.f then s.f else x.t⟩] else []
def cutB (s x : Sp) : List Sp := if s.t ≠ [] ∧ EndGt x.t s.t then [⟨maxS x.f s.t, x.t⟩] else []
def cutOut (s x : Sp) : List Sp := cutA s x ++ cutB s x
def minus (l : List Sp) (s : Sp) : List Sp := if SpR s then (uni l).flatMap (cutOut s) else uni l
theorem cut_cases {s x y : Sp} (h : y ∈ cutOut s x) : (x.f < s.f ∧ s.f ≠ [] ∧ y.f = x.f ∧ ((EndGt x.t s.f ∧ y.t = s.f) ∨ (¬ EndGt x.t s.f ∧ y.t = x.t))) ∨ (s.t ≠ [] ∧ EndGt x.t s.t ∧ y.t = x.t ∧ ((x.f < s.t ∧ y.f = s.t) ∨ (¬ x.f < s.t ∧ y.f = x.f))) := by
  unfold cutOut cutA cutB at h
  rcases List.mem_append.1 h with h | h
  · split at h
    · rw [List.mem_singleton.1 h]
      left
      rename_i h1
      refine ⟨h1, fun e => List.not_lt_nil x.f (by rw [e] at h1; exact h1), rfl, ?_⟩
      dsimp only
      split
      · exact .inl ⟨by assumption, rfl⟩
      · exact .inr ⟨by assumption, rfl⟩
    · cases h
  · split at h
    · rw [List.mem_singleton.1 h, maxS_eq]
      rename_i hc
      right
      refine ⟨hc.1, hc.2, rfl, ?_⟩
      dsimp only
      split
      · exact .inl ⟨by assumption, rfl⟩
      · exact .inr ⟨by assumption, rfl⟩
    · cases h
theorem cut_keys {s x : Sp} (hs : Sane s) (hx : Sane x) (k : Str) : (∃ y ∈ cutOut s x, SpH y k) ↔ SpH x k ∧ ¬ SpH s k := by
  unfold Sane at hs hx
  constructor
  · rintro ⟨y, hy, h1, h2⟩
    have := cut_cases hy
    unfold EndGt at this
    unfold SpH
    grind
  · rintro ⟨⟨h1, h2⟩, h3⟩
    unfold SpH at h3
    by_cases h4 : k < s.f
    · refine ⟨⟨x.f, if EndGt x.t s.f then s.f else x.t⟩, List.mem_append_left _ (by unfold cutA; rw [if_pos (by grind)]; exact List.mem_singleton.2 rfl), h1, ?_⟩
      dsimp only
      unfold EndGt
      grind
    · have h5 : s.t ≠ [] ∧ ¬ k < s.t := by grind
      refine ⟨⟨maxS x.f s.t, x.t⟩, List.mem_append_right _ (by unfold cutB; rw [if_pos (by unfold EndGt; grind)]; exact List.mem_singleton.2 rfl), ?_, h2⟩
      dsimp only
      rw [maxS_eq]
      grind
theorem cut_canon {s : Sp} (hs : Sane s) {u : List Sp} (hu : Canon u) : Canon (u.flatMap (cutOut s)) := by
  unfold Sane at hs
  refine ⟨fun y hy => ?_, List.pairwise_flatMap.2 ⟨fun x hx => ?_, ?_⟩⟩
  · obtain ⟨x, hx, hy⟩ := List.mem_flatMap.1 hy
    have h1 := hu.1 x hx
    have := cut_cases hy
    unfold EndGt at this
    unfold Sane at h1 ⊢
    grind
  · have h1 := hu.1 x hx
    unfold Sane at h1
    refine List.pairwise_append.2 ⟨by unfold cutA; split <;> simp, by unfold cutB; split <;> simp, fun a ha b hb => ?_⟩
    unfold cutA at ha
    unfold cutB at hb
    split at ha
    · rename_i h2
      split at hb
      · rename_i h3
        rw [maxS_eq] at hb
        rw [List.mem_singleton.1 ha, List.mem_singleton.1 hb]
        dsimp only
        unfold EndGt at h3 ⊢
        have h4 : s.f ≠ [] := by
          intro e
          rw [e] at h2
          exact List.not_lt_nil _ h2
        grind
      · cases hb
    · cases ha
  · refine hu.2.imp_of_mem ?_
    intro a b ha hb hab y1 hy1 y2 hy2
    have h1 := hu.1 a ha
    have h2 := hu.1 b hb
    have h3 := cut_cases hy1
    have h4 := cut_cases hy2
    unfold EndGt at h3 h4
    unfold Sane at h1 h2
    have h5 : ∀ {p q : Str}, p < q → q ≠ [] := by
      intro p q h e
      rw [e] at h
      exact List.not_lt_nil _ h
    grind
theorem cut_right {s : Sp} (hs : SpR s) {u : List Sp} (hc : Canon u) (hu : ∀ x ∈ u, SpR x) : ∀ y ∈ u.flatMap (cutOut s), SpR y := by
  intro y hy
  have hsane := (cut_canon hs.2.2 hc).1 y hy
  obtain ⟨x, hx, hy⟩ := List.mem_flatMap.1 hy
  have h1 := hu x hx
  have := cut_cases hy
  have g1 := h1.1
  have g2 := h1.2.1
  have g3 := hs.1
  have g4 := hs.2.1
  refine ⟨?_, ?_, hsane⟩
  · rcases this with ⟨_, _, e, _⟩ | ⟨_, _, _, ⟨_, e⟩ | ⟨_, e⟩⟩ <;> rw [e] <;> assumption
  · rcases this with ⟨_, _, _, ⟨_, e⟩ | ⟨_, e⟩⟩ | ⟨_, _, e, _⟩ <;> rw [e] <;> assumption
theorem minus_canon (l : List Sp) (s : Sp) : Canon (minus l s) := by
  unfold minus
  split
  · rename_i h; exact cut_canon h.2.2 (uni_canon l)
  · exact uni_canon l
theorem minus_right (l : List Sp) (s : Sp) : ∀ y ∈ minus l s, SpR y := by
  unfold minus
  split
  · rename_i h; exact cut_right h (uni_canon l) uni_right
  · exact uni_right
theorem minus_keys (l : List Sp) (s : Sp) (k : Str) : Keys (minus l s) k ↔ AnyH l k ∧ ¬ (SpR s ∧ SpH s k) := by
  unfold minus
  split
  · rename_i h
    rw [← uni_keys]
    unfold Keys
    constructor
    · rintro ⟨y, hy, hk⟩
      obtain ⟨x, hx, hy⟩ := List.mem_flatMap.1 hy
      have := (cut_keys h.2.2 ((uni_canon l).1 x hx) k).1 ⟨y, hy, hk⟩
      exact ⟨⟨x, hx, this.1⟩, fun g => this.2 g.2⟩
    · rintro ⟨⟨x, hx, hk⟩, h2⟩
      obtain ⟨y, hy, hk⟩ := (cut_keys h.2.2 ((uni_canon l).1 x hx) k).2 ⟨hk, fun g => h2 ⟨h, g⟩⟩
      exact ⟨y, List.mem_flatMap.2 ⟨x, hx, hy⟩, hk⟩
  · rename_i h
    rw [uni_keys]
    simp [h]
theorem right_any {m : List Sp} (h : ∀ x ∈ m, SpR x) (k : Str) : AnyH m k ↔ Keys m k := by
  unfold AnyH Keys
  constructor
  · rintro ⟨x, hx, _, hk⟩; exact ⟨x, hx, hk⟩
  · rintro ⟨x, hx, hk⟩; exact ⟨x, hx, h x hx, hk⟩
theorem minus_minus (l : List Sp) (s : Sp) : minus (minus l s) s = minus l s := by
  refine canon_unique (minus_canon _ _) (minus_canon _ _) fun k => ?_
  rw [minus_keys, right_any (minus_right l s), minus_keys]
  grind
theorem minus_gone (l : List Sp) (s : Sp) : ¬ RCov (minus l s) s := by
  rw [rCov_iff]
  rintro ⟨hr, h⟩
  have h0 : SpH s s.f := ⟨Std.le_refl _, hr.2.2⟩
  have h1 := h _ h0
  rw [right_any (minus_right l s), minus_keys] at h1
  exact h1.2 ⟨hr, h0⟩
def rMinP (l : List Sp) (s : Sp) (e : Str) : Bool := decide (AnyH l e) && !(decide (SpR s) && decide (SpH s e))
def rMinus (l : List Sp) (s : Sp) : List Sp := madeM (endsM (l ++ [s])) ((endsM (l ++ [s])).map (rMinP l s))
theorem rMinus_eq (l : List Sp) (s : Sp) : rMinus l s = minus l s := by
  obtain ⟨h1, h2⟩ := made_spec (p := rMinP l s) (endsM_spec (l ++ [s])).1
  refine canon_unique h1 (minus_canon l s) fun k => ?_
  rw [show Keys (rMinus l s) k ↔ _ from h2 k, minus_keys]
  have aux : ∀ e, Floor (endsM (l ++ [s])) k e → (rMinP l s e = true ↔ AnyH l k ∧ ¬ (SpR s ∧ SpH s k)) := by
    intro e hf
    rw [floor_any (fun x hx hr => endsM_has (List.mem_append_left _ hx) hr) hf]
    have : (SpR s ∧ SpH s k) ↔ (SpR s ∧ SpH s e) := by
      constructor
      · rintro ⟨h3, h4⟩
        obtain ⟨h5, h6⟩ := endsM_has (l := l ++ [s]) (s := s) (by simp) h3
        exact ⟨h3, (floor_has hf h5 h6).1 h4⟩
      · rintro ⟨h3, h4⟩
        obtain ⟨h5, h6⟩ := endsM_has (l := l ++ [s]) (s := s) (by simp) h3
        exact ⟨h3, (floor_has hf h5 h6).2 h4⟩
    rw [this]
    unfold rMinP
    by_cases g1 : SpR s <;> by_cases g2 : SpH s e <;> simp [g1, g2]
  constructor
  · rintro ⟨e, hf, he⟩
    exact (aux e hf).1 he
  · intro h
    obtain ⟨e, hf⟩ := endsM_floor (l ++ [s]) k
    exact ⟨e, hf, (aux e hf).2 h⟩
end Go.Ab
