/- One text of the proof whose last text says what is proved. -/
import Derived.Test.YtbpnhefkfamhaaaAb21
import Derived.Sort.Walk0
set_option linter.unusedVariables false
set_option linter.unusedSimpArgs false
namespace Go.Ab

abbrev Str := List UInt8
theorem bless_eq (a b : Str) : Op.bytesLess a b = decide (a < b) := Go.Proofs.bytesLess_eq a b
theorem nil_le (a : Str) : [] ≤ a := List.nil_le a
theorem nil_lt {a : Str} (h : a ≠ []) : [] < a := by
  cases a with
  | nil => exact absurd rfl h
  | cons x r => exact List.nil_lt_cons ..

structure Sp where
  f : Str
  t : Str
  deriving DecidableEq
def Sp.toI (s : Sp) : I := .agg [.str s.f, .str s.t]
/-- Is it right? -/
def SpR (s : Sp) : Prop := s.f.length ≤ 65 ∧ s.t.length ≤ 65 ∧ (s.t = [] ∨ s.f < s.t)
instance (s : Sp) : Decidable (SpR s) := by unfold SpR; infer_instance
/-- Has it a key? -/
def SpH (s : Sp) (k : Str) : Prop := s.f ≤ k ∧ (s.t = [] ∨ k < s.t)
instance (s : Sp) (k : Str) : Decidable (SpH s k) := by unfold SpH; infer_instance
def AnyH (l : List Sp) (k : Str) : Prop := ∃ s ∈ l, SpR s ∧ SpH s k
def Keys (u : List Sp) (k : Str) : Prop := ∃ s ∈ u, SpH s k
def Sane (s : Sp) : Prop := s.t = [] ∨ s.f < s.t
def Canon (l : List Sp) : Prop := (∀ x ∈ l, Sane x) ∧ l.Pairwise fun x y => x.t ≠ [] ∧ x.t < y.f

theorem Sane.has {s : Sp} (h : Sane s) : SpH s s.f := ⟨Std.le_refl _, h⟩
theorem Canon.tail {s : Sp} {r : List Sp} (h : Canon (s :: r)) : Canon r := ⟨fun x hx => h.1 x (List.mem_cons_of_mem _ hx), (List.pairwise_cons.1 h.2).2⟩
theorem Canon.gap {s : Sp} {r : List Sp} (h : Canon (s :: r)) : ∀ x ∈ r, s.t ≠ [] ∧ s.t < x.f := (List.pairwise_cons.1 h.2).1
theorem Canon.sane {s : Sp} {r : List Sp} (h : Canon (s :: r)) : Sane s := h.1 s (List.mem_cons_self ..)
theorem Canon.low {s : Sp} {r : List Sp} (h : Canon (s :: r)) {k : Str} (hk : Keys (s :: r) k) : s.f ≤ k := by
  obtain ⟨x, hx, hk⟩ := hk
  rcases List.mem_cons.1 hx with rfl | hx
  · exact hk.1
  · have h1 := h.gap x hx
    have h2 := h.sane
    have h3 := hk.1
    unfold Sane at h2
    grind
theorem Canon.key {s : Sp} {r : List Sp} (h : Canon (s :: r)) : Keys (s :: r) s.f := ⟨s, List.mem_cons_self .., h.sane.has⟩
theorem Canon.end {s : Sp} {r : List Sp} (h : Canon (s :: r)) (ht : s.t ≠ []) : ¬ Keys (s :: r) s.t := by
  rintro ⟨x, hx, hk⟩
  rcases List.mem_cons.1 hx with rfl | hx
  · have := hk.2
    grind
  · have h1 := h.gap x hx
    have h2 := hk.1
    grind
theorem Canon.in_tail {s : Sp} {r : List Sp} (h : Canon (s :: r)) {k : Str} : Keys r k ↔ Keys (s :: r) k ∧ ¬ SpH s k := by
  constructor
  · rintro ⟨x, hx, hk⟩
    refine ⟨⟨x, List.mem_cons_of_mem _ hx, hk⟩, fun hs => ?_⟩
    have h1 := h.gap x hx
    have h2 := hk.1
    have h3 := hs.2
    grind
  · rintro ⟨⟨x, hx, hk⟩, hn⟩
    rcases List.mem_cons.1 hx with rfl | hx
    · exact absurd hk hn
    · exact ⟨x, hx, hk⟩
theorem canon_unique : ∀ {u v : List Sp}, Canon u → Canon v → (∀ k, Keys u k ↔ Keys v k) → u = v
  | [], [], _, _, _ => rfl
  | [], s :: r, _, hv, h => by
    have := (h s.f).2 hv.key
    obtain ⟨x, hx, _⟩ := this
    simp at hx
  | s :: r, [], hu, _, h => by
    have := (h s.f).1 hu.key
    obtain ⟨x, hx, _⟩ := this
    simp at hx
  | s :: r, s' :: r', hu, hv, h => by
    have hf : s.f = s'.f := by
      have h1 := hv.low ((h _).1 hu.key)
      have h2 := hu.low ((h _).2 hv.key)
      grind
    have hs := hu.sane
    have hs' := hv.sane
    unfold Sane at hs hs'
    have ht : s.t = s'.t := by
      by_cases h1 : s.t = []
      · by_cases h2 : s'.t = []
        · rw [h1, h2]
        · refine absurd ((h s'.t).1 ⟨s, List.mem_cons_self .., ?_, .inl h1⟩) (hv.end h2)
          grind
      · by_cases h2 : s'.t = []
        · refine absurd ((h s.t).2 ⟨s', List.mem_cons_self .., ?_, .inl h2⟩) (hu.end h1)
          grind
        · by_cases h3 : s.t < s'.t
          · refine absurd ((h s.t).2 ⟨s', List.mem_cons_self .., ?_, .inr h3⟩) (hu.end h1)
            grind
          · by_cases h4 : s'.t < s.t
            · refine absurd ((h s'.t).1 ⟨s, List.mem_cons_self .., ?_, .inr h4⟩) (hv.end h2)
              grind
            · grind
    have hss : s = s' := by
      cases s; cases s'
      simp only [Sp.mk.injEq]
      exact ⟨hf, ht⟩
    subst hss
    rw [canon_unique hu.tail hv.tail fun k => by rw [hu.in_tail, hv.in_tail, h k]]

/-! the union, as the code makes it -/
/-- Does an end lie behind another one? -/
def EndGt (a b : Str) : Prop := a ≠ b ∧ (a = [] ∨ (b ≠ [] ∧ b < a))
instance (a b : Str) : Decidable (EndGt a b) := by unfold EndGt; infer_instance
def uStep (out : List Sp) (s : Sp) : List Sp := match out.getLast? with
  | none => out ++ [s]
  | some l => if l.t ≠ [] ∧ l.t < s.f then out ++ [s] else if EndGt s.t l.t then out.set (out.length - 1) ⟨l.f, s.t⟩ else out
theorem uStep_nil (s : Sp) : uStep [] s = [s] := rfl
theorem uStep_append (o : List Sp) (l s : Sp) : uStep (o ++ [l]) s = if l.t ≠ [] ∧ l.t < s.f then o ++ [l] ++ [s] else if EndGt s.t l.t then o ++ [⟨l.f, s.t⟩] else o ++ [l] := by
  unfold uStep
  simp

/-- What holds of the union of what has come: 'd'. -/
structure UInv (d u : List Sp) : Prop where
  canon : Canon u
  keys : ∀ k, Keys u k ↔ Keys d k
  ends : ∀ x ∈ u, (∃ s ∈ d, x.f = s.f) ∧ ∃ s ∈ d, x.t = s.t
  some : d ≠ [] → u ≠ []
theorem uStep_inv {d u : List Sp} {s : Sp} (h : UInv d u) (hs : Sane s) (hle : ∀ x ∈ d, x.f ≤ s.f) : UInv (d ++ [s]) (uStep u s) := by
  have dup : ∀ x ∈ u, ((∃ y ∈ d ++ [s], x.f = y.f) ∧ ∃ y ∈ d ++ [s], x.t = y.t) := fun x hx => by
    obtain ⟨⟨y, hy, e1⟩, ⟨z, hz, e2⟩⟩ := h.ends x hx
    exact ⟨⟨y, List.mem_append_left _ hy, e1⟩, ⟨z, List.mem_append_left _ hz, e2⟩⟩
  have hsm : s ∈ d ++ [s] := by simp
  have kd : ∀ k, Keys (d ++ [s]) k ↔ Keys u k ∨ SpH s k := fun k => by
    rw [h.keys k]
    unfold Keys
    constructor
    · rintro ⟨x, hx, hk⟩
      rcases List.mem_append.1 hx with hx | hx
      · exact .inl ⟨x, hx, hk⟩
      · rw [List.mem_singleton.1 hx] at hk; exact .inr hk
    · rintro (⟨x, hx, hk⟩ | hk)
      · exact ⟨x, List.mem_append_left _ hx, hk⟩
      · exact ⟨s, hsm, hk⟩
  rcases List.eq_nil_or_concat u with rfl | ⟨o, l, he⟩
  · rw [uStep_nil]
    refine ⟨⟨by simpa using hs, by simp⟩, fun k => ?_, ?_, by simp⟩
    · rw [kd]
      simp [Keys]
    · intro x hx
      rw [List.mem_singleton.1 hx]
      exact ⟨⟨s, hsm, rfl⟩, ⟨s, hsm, rfl⟩⟩
  · rw [List.concat_eq_append] at he
    subst he
    obtain ⟨⟨c1, c2⟩, k1, k2, k3⟩ := h
    have hl : Sane l := c1 l (by simp)
    have hlf : l.f ≤ s.f := by
      obtain ⟨⟨y, hy, e⟩, _⟩ := k2 l (by simp)
      rw [e]
      exact hle y hy
    have hp := List.pairwise_append.1 c2
    have hol : ∀ x ∈ o, x.t ≠ [] ∧ x.t < l.f := fun x hx => hp.2.2 x hx l (by simp)
    have ko : ∀ (y : Sp) (k : Str), Keys (o ++ [y]) k ↔ Keys o k ∨ SpH y k := fun y k => by
      unfold Keys
      simp only [List.mem_append, List.mem_singleton]
      constructor
      · rintro ⟨x, hx | rfl, hk⟩
        · exact .inl ⟨x, hx, hk⟩
        · exact .inr hk
      · rintro (⟨x, hx, hk⟩ | hk)
        · exact ⟨x, .inl hx, hk⟩
        · exact ⟨y, .inr rfl, hk⟩
    unfold Sane at hs hl
    rw [uStep_append]
    split
    · rename_i hc
      refine ⟨⟨?_, ?_⟩, fun k => ?_, ?_, by simp⟩
      · intro x hx
        rcases List.mem_append.1 hx with hx | hx
        · exact c1 x hx
        · rw [List.mem_singleton.1 hx]; exact hs
      · refine List.pairwise_append.2 ⟨c2, by simp, ?_⟩
        intro x hx y hy
        rw [List.mem_singleton.1 hy]
        rcases List.mem_append.1 hx with hx | hx
        · have := hol x hx
          refine ⟨this.1, ?_⟩
          grind
        · rw [List.mem_singleton.1 hx]; exact hc
      · rw [kd]
        unfold Keys
        simp only [List.mem_append, List.mem_singleton]
        constructor
        · rintro ⟨x, hx | rfl, hk⟩
          · exact .inl ⟨x, hx, hk⟩
          · exact .inr hk
        · rintro (⟨x, hx, hk⟩ | hk)
          · exact ⟨x, .inl hx, hk⟩
          · exact ⟨s, .inr rfl, hk⟩
      · intro x hx
        rcases List.mem_append.1 hx with hx | hx
        · exact dup x hx
        · rw [List.mem_singleton.1 hx]; exact ⟨⟨s, hsm, rfl⟩, ⟨s, hsm, rfl⟩⟩
    · rename_i hc
      split
      · rename_i hg
        unfold EndGt at hg
        have hlt : l.t ≠ [] := by
          intro e
          rw [e] at hg
          rcases hg.2 with h | h
          · exact hg.1 h
          · exact h.1 rfl
        refine ⟨⟨?_, ?_⟩, fun k => ?_, ?_, by simp⟩
        · intro x hx
          rcases List.mem_append.1 hx with hx | hx
          · exact c1 x (List.mem_append_left _ hx)
          · rw [List.mem_singleton.1 hx]
            unfold Sane
            dsimp only
            grind
        · refine List.pairwise_append.2 ⟨hp.1, by simp, ?_⟩
          intro x hx y hy
          rw [List.mem_singleton.1 hy]
          exact hol x hx
        · rw [kd, ko, ko]
          unfold SpH
          dsimp only
          grind
        · intro x hx
          rcases List.mem_append.1 hx with hx | hx
          · exact dup x (List.mem_append_left _ hx)
          · rw [List.mem_singleton.1 hx]
            obtain ⟨⟨y, hy, e⟩, _⟩ := dup l (by simp)
            exact ⟨⟨y, hy, e⟩, ⟨s, hsm, rfl⟩⟩
      · rename_i hg
        refine ⟨⟨c1, c2⟩, fun k => ?_, dup, by simp⟩
        rw [kd, ko]
        unfold EndGt at hg
        unfold SpH
        grind
theorem uFold_inv : ∀ {r d u : List Sp}, UInv d u → (∀ s ∈ r, Sane s) → (d ++ r).Pairwise (fun x y => x.f ≤ y.f) → UInv (d ++ r) (r.foldl uStep u)
  | [], d, u, h, _, _ => by simpa using h
  | s :: r, d, u, h, hs, hp => by
    have h1 := uStep_inv h (hs s (List.mem_cons_self ..)) fun x hx => (List.pairwise_append.1 hp).2.2 x hx s (List.mem_cons_self ..)
    have := uFold_inv (r := r) h1 (fun x hx => hs x (List.mem_cons_of_mem _ hx)) (by simpa using hp)
    simpa using this
def unionOf (p : List Sp) : List Sp := p.foldl uStep []
theorem unionOf_inv {p : List Sp} (hs : ∀ s ∈ p, Sane s) (hp : p.Pairwise fun x y => x.f ≤ y.f) : UInv p (unionOf p) := by
  have h0 : UInv [] [] := ⟨⟨by simp, by simp⟩, fun k => Iff.rfl, by simp, by simp⟩
  exact uFold_inv (d := []) (r := p) h0 hs (by simpa using hp)
/-- The union of spans. -/
def uni (l : List Sp) : List Sp := unionOf ((l.filter fun s => decide (SpR s)).mergeSort fun x y => decide (x.f ≤ y.f))
theorem uni_inv (l : List Sp) : UInv (l.filter fun s => decide (SpR s)) (uni l) := by
  have hperm := List.mergeSort_perm (l.filter fun s => decide (SpR s)) fun x y => decide (x.f ≤ y.f)
  have hs : ∀ s ∈ (l.filter fun s => decide (SpR s)).mergeSort fun x y => decide (x.f ≤ y.f), Sane s := fun s hs => by
    have := (List.mem_filter.1 (hperm.mem_iff.1 hs)).2
    exact (of_decide_eq_true this).2.2
  have hp : ((l.filter fun s => decide (SpR s)).mergeSort fun x y => decide (x.f ≤ y.f)).Pairwise fun x y => x.f ≤ y.f := by
    have := List.pairwise_mergeSort (le := fun x y : Sp => decide (x.f ≤ y.f)) (fun a b c h1 h2 => by simp at *; grind) (fun a b => by simp; grind) (l.filter fun s => decide (SpR s))
    exact this.imp fun h => by simpa using h
  have h := unionOf_inv hs hp
  refine ⟨h.canon, fun k => ?_, fun x hx => ?_, fun hne => h.some fun e => hne ?_⟩
  · rw [show Keys (uni l) k ↔ _ from h.keys k]
    unfold Keys
    constructor <;> rintro ⟨s, hs, hk⟩
    · exact ⟨s, hperm.mem_iff.1 hs, hk⟩
    · exact ⟨s, hperm.mem_iff.2 hs, hk⟩
  · obtain ⟨⟨y, hy, e1⟩, ⟨z, hz, e2⟩⟩ := h.ends x hx
    exact ⟨⟨y, hperm.mem_iff.1 hy, e1⟩, ⟨z, hperm.mem_iff.1 hz, e2⟩⟩
  · rw [e] at hperm
    exact List.nil_perm.1 hperm
theorem keys_filter {l : List Sp} {k : Str} : Keys (l.filter fun s => decide (SpR s)) k ↔ AnyH l k := by
  unfold Keys AnyH
  constructor
  · rintro ⟨s, hs, hk⟩
    obtain ⟨h1, h2⟩ := List.mem_filter.1 hs
    exact ⟨s, h1, of_decide_eq_true h2, hk⟩
  · rintro ⟨s, hs, hr, hk⟩
    exact ⟨s, List.mem_filter.2 ⟨hs, decide_eq_true hr⟩, hk⟩
theorem uni_keys (l : List Sp) (k : Str) : Keys (uni l) k ↔ AnyH l k := by rw [(uni_inv l).keys, keys_filter]
theorem uni_canon (l : List Sp) : Canon (uni l) := (uni_inv l).canon
theorem uni_right {l : List Sp} : ∀ x ∈ uni l, SpR x := fun x hx => by
  obtain ⟨⟨y, hy, e1⟩, ⟨z, hz, e2⟩⟩ := (uni_inv l).ends x hx
  have h1 := of_decide_eq_true (List.mem_filter.1 hy).2
  have h2 := of_decide_eq_true (List.mem_filter.1 hz).2
  have h3 := (uni_canon l).1 x hx
  exact ⟨by rw [e1]; exact h1.1, by rw [e2]; exact h2.2.1, h3⟩
/-- However they are sorted. -/
theorem union_any {l p : List Sp} (hperm : p.Perm (l.filter fun s => decide (SpR s))) (hp : p.Pairwise fun x y => x.f ≤ y.f) : unionOf p = uni l := by
  have hs : ∀ s ∈ p, Sane s := fun s hs => (of_decide_eq_true (List.mem_filter.1 (hperm.mem_iff.1 hs)).2).2.2
  have h := unionOf_inv hs hp
  refine canon_unique h.canon (uni_canon l) fun k => ?_
  rw [h.keys, uni_keys, ← keys_filter]
  unfold Keys
  constructor <;> rintro ⟨s, hs, hk⟩
  · exact ⟨s, hperm.mem_iff.1 hs, hk⟩
  · exact ⟨s, hperm.mem_iff.2 hs, hk⟩
end Go.Ab

namespace Go.Ab

theorem le_prefix_255 : ∀ {p k : Str}, (∀ x ∈ p, x = 255) → (p ≤ k ↔ p <+: k)
  | [], k, _ => by simp
  | c :: p, [], _ => by simp
  | c :: p, x :: k, h => by
    have hc := h c (List.mem_cons_self ..)
    subst hc
    have ih := le_prefix_255 (p := p) (k := k) fun y hy => h y (List.mem_cons_of_mem _ hy)
    rw [List.cons_le_cons_iff, List.cons_prefix_cons, ih]
    have h1 : ¬ (255 : UInt8) < x := by
      intro h2
      have h3 := UInt8.lt_iff_toNat_lt.1 h2
      have h4 := x.toNat_lt
      simp at h3
      omega
    simp [h1]
theorem lt_succ {x c : UInt8} (hc : c ≠ 255) : x < c + 1 ↔ x < c ∨ x = c := by
  have h1 : c.toNat ≠ 255 := fun e => hc (UInt8.toNat_inj.1 (by simpa using e))
  have h2 := c.toNat_lt
  have h3 : (c + 1).toNat = c.toNat + 1 := by
    rw [UInt8.toNat_add]
    simp
    omega
  rw [UInt8.lt_iff_toNat_lt, UInt8.lt_iff_toNat_lt, h3, ← UInt8.toNat_inj]
  omega
theorem under_has : ∀ {q : Str} {c : UInt8} {F k : Str}, c ≠ 255 → (∀ x ∈ F, x = 255) → ((q ++ c :: F ≤ k ∧ k < q ++ [c + 1]) ↔ q ++ c :: F <+: k)
  | [], c, F, [], hc, hF => by simp
  | [], c, F, x :: k, hc, hF => by
    have h1 := le_prefix_255 (k := k) hF
    simp only [List.nil_append]
    rw [List.cons_le_cons_iff, List.cons_lt_cons_iff, List.cons_prefix_cons, lt_succ hc, ← h1]
    have h2 : ¬ k < [] := List.not_lt_nil k
    constructor
    · rintro ⟨h3, h4⟩
      rcases h4 with (h4 | rfl) | ⟨_, h4⟩
      · rcases h3 with h3 | ⟨h3, _⟩
        · exact absurd (UInt8.lt_trans h3 h4) (UInt8.lt_irrefl _)
        · subst h3; exact absurd h4 (UInt8.lt_irrefl _)
      · rcases h3 with h3 | ⟨_, h3⟩
        · exact absurd h3 (UInt8.lt_irrefl _)
        · exact ⟨rfl, h3⟩
      · exact absurd h4 h2
    · rintro ⟨rfl, h3⟩
      exact ⟨.inr ⟨rfl, h3⟩, .inl (.inr rfl)⟩
  | a :: q, c, F, [], hc, hF => by simp
  | a :: q, c, F, x :: k, hc, hF => by
    have ih := under_has (q := q) (k := k) hc hF
    simp only [List.cons_append]
    rw [List.cons_le_cons_iff, List.cons_lt_cons_iff, List.cons_prefix_cons, ← ih]
    constructor
    · rintro ⟨h3, h4⟩
      rcases h3 with h3 | ⟨rfl, h3⟩
      · rcases h4 with h4 | ⟨rfl, _⟩
        · exact absurd (UInt8.lt_trans h3 h4) (UInt8.lt_irrefl _)
        · exact absurd h3 (UInt8.lt_irrefl _)
      · rcases h4 with h4 | ⟨_, h4⟩
        · exact absurd h4 (UInt8.lt_irrefl _)
        · exact ⟨rfl, h3, h4⟩
    · rintro ⟨rfl, h3, h4⟩
      exact ⟨.inr ⟨rfl, h3⟩, .inr ⟨rfl, h4⟩⟩
theorem key_has : ∀ {p k : Str}, (p ≤ k ∧ k < p ++ [0]) ↔ k = p
  | [], [] => by simp
  | [], x :: k => by
    simp only [List.nil_append]
    rw [List.cons_lt_cons_iff]
    have h1 : ¬ x < 0 := by
      intro h
      have := UInt8.lt_iff_toNat_lt.1 h
      simp at this
    have h2 : ¬ k < [] := List.not_lt_nil k
    simp [h1, h2]
  | a :: p, [] => by simp
  | a :: p, x :: k => by
    have ih := key_has (p := p) (k := k)
    simp only [List.cons_append]
    rw [List.cons_le_cons_iff, List.cons_lt_cons_iff, List.cons.injEq, ← ih]
    constructor
    · rintro ⟨h3, h4⟩
      rcases h3 with h3 | ⟨rfl, h3⟩
      · rcases h4 with h4 | ⟨rfl, _⟩
        · exact absurd (UInt8.lt_trans h3 h4) (UInt8.lt_irrefl _)
        · exact absurd h3 (UInt8.lt_irrefl _)
      · rcases h4 with h4 | ⟨_, h4⟩
        · exact absurd h4 (UInt8.lt_irrefl _)
        · exact ⟨rfl, h3, h4⟩
    · rintro ⟨rfl, h3, h4⟩
      exact ⟨.inr ⟨rfl, h3⟩, .inr ⟨rfl, h4⟩⟩
theorem prefix_take {p k : Str} : p <+: k ↔ p.length ≤ k.length ∧ k.take (min p.length k.length) = p := by
  constructor
  · intro h
    have h1 := h.length_le
    refine ⟨h1, ?_⟩
    rw [Nat.min_eq_left h1]
    exact (List.prefix_iff_eq_take.1 h).symm
  · rintro ⟨h1, h2⟩
    rw [Nat.min_eq_left h1] at h2
    exact List.prefix_iff_eq_take.2 h2.symm
end Go.Ab
