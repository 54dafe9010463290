/- One text of the proof whose last text says what is proved. -/
import Derived.Test.YtbpnhefkfamhaaaQ0
set_option linter.unusedVariables false
set_option linter.unusedSimpArgs false
namespace Go.Ab

theorem le_prefix_255 : ∀ {p k : Str}, (∀ x ∈ p, x = 255) → (p ≤ k ↔ p <+: k)
  | [], k, _ => by simp
  | c :: p, [], _ => by simp
  | c :: p, x :: k, h => by
    have hc := h c (List.mem_cons_self ..)
    subst hc
    have ih := le_prefix_255 (p := p) (k := k) fun y hy => h y (List.mem_cons_of_mem _ hy)
    rw [List.cons_le_cons_iff, List.cons_prefix_cons, ih]
    have h1 : ¬ (255 : UInt8) < x := by
      intro h2
      have h3 := UInt8.lt_iff_toNat_lt.1 h2
      have h4 := x.toNat_lt
      simp at h3
      omega
    simp [h1]
theorem lt_succ {x c : UInt8} (hc : c ≠ 255) : x < c + 1 ↔ x < c ∨ x = c := by
  have h1 : c.toNat ≠ 255 := fun e => hc (UInt8.toNat_inj.1 (by simpa using e))
  have h2 := c.toNat_lt
  have h3 : (c + 1).toNat = c.toNat + 1 := by
    rw [UInt8.toNat_add]
    simp
    omega
  rw [UInt8.lt_iff_toNat_lt, UInt8.lt_iff_toNat_lt, h3, ← UInt8.toNat_inj]
  omega
theorem under_has : ∀ {q : Str} {c : UInt8} {F k : Str}, c ≠ 255 → (∀ x ∈ F, x = 255) → ((q ++ c :: F ≤ k ∧ k < q ++ [c + 1]) ↔ q ++ c :: F <+: k)
  | [], c, F, [], hc, hF => by simp
  | [], c, F, x :: k, hc, hF => by
    have h1 := le_prefix_255 (k := k) hF
    simp only [List.nil_append]
    rw [List.cons_le_cons_iff, List.cons_lt_cons_iff, List.cons_prefix_cons, lt_succ hc, ← h1]
    have h2 : ¬ k < [] := List.not_lt_nil k
    constructor
    · rintro ⟨h3, h4⟩
      rcases h4 with (h4 | rfl) | ⟨_, h4⟩
      · rcases h3 with h3 | ⟨h3, _⟩
        · exact absurd (UInt8.lt_trans h3 h4) (UInt8.lt_irrefl _)
        · subst h3; exact absurd h4 (UInt8.lt_irrefl _)
      · rcases h3 with h3 | ⟨_, h3⟩
        · exact absurd h3 (UInt8.lt_irrefl _)
        · exact ⟨rfl, h3⟩
      · exact absurd h4 h2
    · rintro ⟨rfl, h3⟩
      exact ⟨.inr ⟨rfl, h3⟩, .inl (.inr rfl)⟩
  | a :: q, c, F, [], hc, hF => by simp
  | a :: q, c, F, x :: k, hc, hF => by
    have ih := under_has (q := q) (k := k) hc hF
    simp only [List.cons_append]
    rw [List.cons_le_cons_iff, List.cons_lt_cons_iff, List.cons_prefix_cons, ← ih]
    constructor
    · rintro ⟨h3, h4⟩
      rcases h3 with h3 | ⟨rfl, h3⟩
      · rcases h4 with h4 | ⟨rfl, _⟩
        · exact absurd (UInt8.lt_trans h3 h4) (UInt8.lt_irrefl _)
        · exact absurd h3 (UInt8.lt_irrefl _)
      · rcases h4 with h4 | ⟨_, h4⟩
        · exact absurd h4 (UInt8.lt_irrefl _)
        · exact ⟨rfl, h3, h4⟩
    · rintro ⟨rfl, h3, h4⟩
      exact ⟨.inr ⟨rfl, h3⟩, .inr ⟨rfl, h4⟩⟩
theorem key_has : ∀ {p k : Str}, (p ≤ k ∧ k < p ++ [0]) ↔ k = p
  | [], [] => by simp
  | [], x :: k => by
    simp only [List.nil_append]
    rw [List.cons_lt_cons_iff]
    have h1 : ¬ x < 0 := by
      intro h
      have := UInt8.lt_iff_toNat_lt.1 h
      simp at this
    have h2 : ¬ k < [] := List.not_lt_nil k
    simp [h1, h2]
  | a :: p, [] => by simp
  | a :: p, x :: k => by
    have ih := key_has (p := p) (k := k)
    simp only [List.cons_append]
    rw [List.cons_le_cons_iff, List.cons_lt_cons_iff, List.cons.injEq, ← ih]
    constructor
    · rintro ⟨h3, h4⟩
      rcases h3 with h3 | ⟨rfl, h3⟩
      · rcases h4 with h4 | ⟨rfl, _⟩
        · exact absurd (UInt8.lt_trans h3 h4) (UInt8.lt_irrefl _)
        · exact absurd h3 (UInt8.lt_irrefl _)
      · rcases h4 with h4 | ⟨_, h4⟩
        · exact absurd h4 (UInt8.lt_irrefl _)
        · exact ⟨rfl, h3, h4⟩
    · rintro ⟨rfl, h3, h4⟩
      exact ⟨.inr ⟨rfl, h3⟩, .inr ⟨rfl, h4⟩⟩
theorem prefix_take {p k : Str} : p <+: k ↔ p.length ≤ k.length ∧ k.take (min p.length k.length) = p := by
  constructor
  · intro h
    have h1 := h.length_le
    refine ⟨h1, ?_⟩
    rw [Nat.min_eq_left h1]
    exact (List.prefix_iff_eq_take.1 h).symm
  · rintro ⟨h1, h2⟩
    rw [Nat.min_eq_left h1] at h2
    exact List.prefix_iff_eq_take.2 h2.symm
end Go.Ab
